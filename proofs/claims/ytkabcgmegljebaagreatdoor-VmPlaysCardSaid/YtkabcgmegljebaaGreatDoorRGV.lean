/- Contracts and facts of functions of the program, joined in one text. -/
import Derived.Test.YtkabcgmegljebaaGreatDoorRows
import Derived.Test.YtkabcgmegljebaaGreatDoorRGM
import Derived.Lib.LaidU8
import Derived.Lib.SmallJoins
import Derived.Deep.Slices
import Derived.Deep.Fields
import Derived.ChangeSame
import Derived.ProofKit
import Derived.OpenShut
import Derived.ChangeOld
import Derived.SizedLaws
import Derived.Stop.LaidErr
set_option maxHeartbeats 8000000
set_option maxRecDepth 100000
set_option linter.unusedVariables false
set_option linter.unusedSimpArgs false
namespace Go.Proofs.YtkabcgmegljebaaGreatDoor.O
open Go.ChangeShapes Go.WideShapes Go.ChangeAt Go.RowKit Go.Deep Go.Joins
open Go.Proofs.YtkabcgmegljebaaGreatDoorW.PrintWords
open Go.Proofs.YtkabcgmegljebaaGreatDoor.Q
theorem cells3 : Tryz.prog.cellsOf 3 = 1 := by kernel_rfl
theorem cells37 : Tryz.prog.cellsOf 37 = 9 := by kernel_rfl
theorem lt_cell {w : World} {p : Addr} {v : Value} (h : w.cell? p = some v) : p.block < w.heap.size := by
 rcases Nat.lt_or_ge p.block w.heap.size with h1 | h1
 ·
  exact h1
 ·
  rw [World.cell?] at h
  simp [Array.getElem?_eq_none h1] at h
theorem kt_of_laid {W : World} (h : laidMet Tryz.prog [("tenor/code.kinds", Rows.laid_tenor_code_kinds)] W) : H.KT W := by
 obtain ⟨g, t, cs, fuel, p, hg, hty, hvar, hd⟩ := Lib.laidMet.reads h (n := "tenor/code.kinds") (d := Rows.laid_tenor_code_kinds) (List.mem_singleton.2 rfl)
 obtain rfl : g = 0 := Option.some.inj (hg.symm.trans (by kernel_rfl))
 obtain rfl : t = 49 := Option.some.inj (hty.symm.trans (by kernel_rfl))
 rcases DataW.trod_slice Tryz.underlying49 hd with ⟨_, hx⟩ | ⟨a, len, cap, el, rs, m, rfl, hcs, hx, _, hlc, _, hel, helem, _, _⟩
 ·
  cases hx
 have e0 := congrArg Prod.fst hx
 simp only [Rows.laid_tenor_code_kinds, DataW.slice.injEq] at e0
 obtain ⟨eE, _⟩ := e0
 have hlen : len = 8 := by
  have := congrArg List.length eE
  simp at this
  omega
 subst hlen
 have hcell : ∀ i, i < 8 → W.cell? (a.add i) = some (.int .i64 (H.rdI H.xdS (i : Int))) := by
  intro i hi
  have h1 := helem i hi
  rw [cells3, Nat.mul_one] at h1
  have h2 : el[i]? = some (el[i]'(by omega)) := List.getElem?_eq_getElem _
  rw [h2] at h1
  obtain ⟨cs', hc, ht⟩ := Option.bind_eq_some_iff.1 h1
  obtain ⟨n, rfl, hxx, _⟩ := DataW.trod_int Tryz.underlying3 ht
  obtain ⟨_, _, hat⟩ := World.cells?_some hc
  have h3 := hat 0 (by decide)
  rw [Go.Deep.add_add, Nat.add_zero] at h3
  rw [h3]
  have h4 : (el.map (·.1))[i]? = some (.lit (.int .i64 n)) := by rw [List.getElem?_map, h2, hxx]; rfl
  rw [← eE] at h4
  have h5 : ([.lit (.int .i64 0), .lit (.int .i64 0), .lit (.int .i64 2), .lit (.int .i64 3), .lit (.int .i64 4), .lit (.int .i64 6), .lit (.int .i64 7), .lit (.int .i64 8)] : List (DataW Unit))[i]? = some (.lit (.int .i64 (H.rdI H.xdS (i : Int)))) := by
   match i, hi with
   | 0, _ | 1, _ | 2, _ | 3, _ | 4, _ | 5, _ | 6, _ | 7, _ => rfl
  rw [h5] at h4
  injection h4 with h4; injection h4 with h4; injection h4 with _ h4
  rw [h4]; rfl
 refine ⟨a, cap, ?_, ?_, hcell⟩
 ·
  have h1 := World.var?_cell hg hvar 0
  rw [h1, ← Array.getElem?_toList, hcs]; rfl
 ·
  have h0 := hcell 0 (by decide)
  have h1 := lt_cell h0
  rwa [H.add_block] at h1
variable {K : Type} {enc : TypeId × Value → K} {W : World}
theorem trodF {base : Nat} {sp : Nat → Bool} {held : Bool} {fuel : Nat} {t : TypeId} {k : FloatKind} {cs : List Value} {x : DataW K × List MemPlace} (ht : Tryz.prog.underlying t = some (.float k)) (h : DataW.trod enc Tryz.prog W base sp held fuel t cs = some x) : ∃ n, cs = [.float k n] ∧ (Lit.float k n).wf = true := by
 cases fuel with
 | zero => simp [DataW.trod] at h
 | succ n =>
  unfold DataW.trod at h
  rw [ht] at h
  split at h <;> simp_all
theorem op_cells {n : Nat} {cs : List Value} {x : DataW K × List MemPlace} (h : DataW.trod enc Tryz.prog W 0 (fun _ => true) true n 37 cs = some x) (hl : cs.length = 9) :
  ∃ e : S37, cs = [.int .i64 e.f0, .float .f64 e.f1, .float .f64 e.f2, .int .i64 e.f3, .int .i64 e.f4, .int .i64 e.f5, .int .i64 e.f6, .int .i64 e.f7, .int .i64 e.f8] ∧ e.f1 < 18446744073709551616 ∧ e.f2 < 18446744073709551616 := by
 obtain ⟨ys, n', _, _, _, hyl, hf⟩ := DataW.trod_struct Tryz.underlying37 h
 have pick : ∀ (j : Nat) (f : Field), j < 9 → (match Tryz.prog.underlying 37 with | some (.struct fs) => fs[j]? | _ => none) = some f → ∃ y, DataW.trod enc Tryz.prog W 0 (fun _ => true) true n' f.type [cs.getD j undef] = some y := by
  intro j f hj hfj
  rw [Tryz.underlying37] at hfj
  obtain ⟨ho, hk⟩ := hone_of (P := Tryz.prog) (by kernel_rfl) j f hfj
  have h1 := hf j f hfj
  rw [ho, hk] at h1
  have e1 : (cs.drop j).take 1 = [cs.getD j undef] := by rw [List.drop_eq_getElem_cons (by omega), List.getD_eq_getElem?_getD, List.getElem?_eq_getElem (by omega)]; rfl
  rw [e1] at h1
  have hy : ys[j]? = some (ys[j]'(by rw [hyl]; exact (Array.getElem?_eq_some_iff.1 hfj).1)) := List.getElem?_eq_getElem _
  exact ⟨_, h1.trans hy⟩
 have key : ∀ (j : Nat) (f : Field), j < 9 → (match Tryz.prog.underlying 37 with | some (.struct fs) => fs[j]? | _ => none) = some f → f.type = 3 → ∃ a, cs.getD j undef = .int .i64 a := by
  intro j f hj hfj ht
  obtain ⟨y, hy⟩ := pick j f hj hfj
  rw [ht] at hy
  obtain ⟨a, e0, _, _⟩ := DataW.trod_int Tryz.underlying3 hy
  exact ⟨a, (List.cons.inj e0).1⟩
 have keyF : ∀ (j : Nat) (f : Field), j < 9 → (match Tryz.prog.underlying 37 with | some (.struct fs) => fs[j]? | _ => none) = some f → f.type = 35 → ∃ a, cs.getD j undef = .float .f64 a ∧ a < 18446744073709551616 := by
  intro j f hj hfj ht
  obtain ⟨y, hy⟩ := pick j f hj hfj
  rw [ht] at hy
  obtain ⟨a, e0, hwf⟩ := trodF Tryz.underlying35 hy
  exact ⟨a, (List.cons.inj e0).1, of_decide_eq_true hwf⟩
 obtain ⟨a0, e0⟩ := key 0 _ (by omega) (by rw [Tryz.underlying37]; rfl) rfl
 obtain ⟨a1, e1, b1⟩ := keyF 1 _ (by omega) (by rw [Tryz.underlying37]; rfl) rfl
 obtain ⟨a2, e2, b2⟩ := keyF 2 _ (by omega) (by rw [Tryz.underlying37]; rfl) rfl
 obtain ⟨a3, e3⟩ := key 3 _ (by omega) (by rw [Tryz.underlying37]; rfl) rfl
 obtain ⟨a4, e4⟩ := key 4 _ (by omega) (by rw [Tryz.underlying37]; rfl) rfl
 obtain ⟨a5, e5⟩ := key 5 _ (by omega) (by rw [Tryz.underlying37]; rfl) rfl
 obtain ⟨a6, e6⟩ := key 6 _ (by omega) (by rw [Tryz.underlying37]; rfl) rfl
 obtain ⟨a7, e7⟩ := key 7 _ (by omega) (by rw [Tryz.underlying37]; rfl) rfl
 obtain ⟨a8, e8⟩ := key 8 _ (by omega) (by rw [Tryz.underlying37]; rfl) rfl
 refine ⟨⟨a0, a1, a2, a3, a4, a5, a6, a7, a8⟩, ?_, b1, b2⟩
 match cs, hl with
 | [c0, c1, c2, c3, c4, c5, c6, c7, c8], _ =>
  obtain rfl : c0 = _ := e0
  obtain rfl : c1 = _ := e1
  obtain rfl : c2 = _ := e2
  obtain rfl : c3 = _ := e3
  obtain rfl : c4 = _ := e4
  obtain rfl : c5 = _ := e5
  obtain rfl : c6 = _ := e6
  obtain rfl : c7 = _ := e7
  obtain rfl : c8 = _ := e8
  rfl
theorem ops_open {n : Nat} {v : Value} {x : DataW K × List MemPlace} (h : DataW.trod enc Tryz.prog W 0 (fun _ => true) true n 22 [v] = some x) :
  ∃ (A : Option Addr) (c : Nat) (l : List S37), v = .slice A l.length c ∧ l.length ≤ c ∧ Kd.C k37 W A l.length l  ∧ ∀ o ∈ l, o.f1 < 18446744073709551616 ∧ o.f2 < 18446744073709551616 := by
 rcases open_slice Tryz.underlying22 h with ⟨hcs, _⟩ | ⟨a, len, cap, m, n', D, Pl, hcs, _, hl, hm, hmm, _, hel⟩
 ·
  injection hcs with hcs
  exact ⟨none, 0, [], hcs, Nat.le_refl _, ⟨rfl, by simp, fun h => absurd h (by simp)⟩, fun o ho => (by cases ho)⟩
 ·
  injection hcs with hcs
  rw [if_pos rfl] at hmm
  subst hmm
  have key : ∀ i, i < len → ∃ e : S37, (e.f1 < 18446744073709551616 ∧ e.f2 < 18446744073709551616) ∧ ∀ j u, [Value.int .i64 e.f0, .float .f64 e.f1, .float .f64 e.f2, .int .i64 e.f3, .int .i64 e.f4, .int .i64 e.f5, .int .i64 e.f6, .int .i64 e.f7, .int .i64 e.f8][j]? = some u → W.cell? (a.add (i * 9 + j)) = some u := by
   intro i hi
   obtain ⟨cs', hc, ht⟩ := hel i (by omega)
   rw [cells37] at hc
   obtain ⟨_, hcl, hat⟩ := World.cells?_some hc
   obtain ⟨e, he, hb⟩ := op_cells ht hcl
   refine ⟨e, hb, fun j u hj => ?_⟩
   rw [← he] at hj
   have hjl : j < 9 := by have := (List.getElem?_eq_some_iff.1 hj).1; omega
   have hcell := hat j hjl
   rw [← Go.Deep.add_add, hcell, hj]
  let g : Nat → S37 := fun i => if hi : i < len then Classical.choose (key i hi) else z37
  have hg : ∀ i (hi : i < len), g i = Classical.choose (key i hi) := fun i hi => dif_pos hi
  have hlen : ((List.range len).map g).length = len := by simp
  have hmax : maxLen = 9223372036854775807 := rfl
  refine ⟨some a, m, (List.range len).map g, by rw [hlen]; exact hcs, by rw [hlen]; exact hl, ⟨rfl, by rw [hlen]; omega, fun _ => ⟨a, rfl, fun j p hp => ?_⟩⟩, fun o ho => ?_⟩
  rotate_left
  ·
   obtain ⟨j, hj, rfl⟩ := List.mem_map.1 ho
   have hj := List.mem_range.1 hj
   have hs := Classical.choose_spec (key j hj)
   rw [← hg j hj] at hs
   exact hs.1
  have hj : j < len := by have := (List.getElem?_eq_some_iff.1 hp).1; rw [hlen] at this; exact this
  have hp' : g j = p := by
   have := hp
   rw [List.getElem?_map, List.getElem?_range hj] at this
   exact Option.some.inj this
  have hs := Classical.choose_spec (key j hj)
  rw [← hg j hj, hp'] at hs
  exact ⟨_, rfl, xhZ W p, fun i u hu => hs.2 i u hu⟩
theorem xlX {r : Reach} {b0 : Nat} {t e : TypeId} {v : Value} (ht : Tryz.prog.underlying t = some (.slice e)) (hv : Value.okWide Tryz.prog W r b0 t v) : v.cells.toList = [v] := by
  simp only [Value.okWide, ht, Cell.okWide] at hv
  cases v <;> simp_all [Cell.ok, Value.cells]
theorem ops_arg {r : Reach} {b0 : Nat} {v : Value} {d : DataW K} {p : List MemPlace} (hv : Value.okWide Tryz.prog W r b0 22 v) (h : DataW.Trod enc Tryz.prog W 0 (fun _ => true) true 22 v d p) :
  ∃ (A : Option Addr) (c : Nat) (l : List S37), v = .slice A l.length c ∧ l.length ≤ c ∧ Kd.C k37 W A l.length l  ∧ ∀ o ∈ l, o.f1 < 18446744073709551616 ∧ o.f2 < 18446744073709551616 := by
 obtain ⟨m, hm⟩ := h
 rw [xlX Tryz.underlying22 hv] at hm
 exact ops_open hm
end Go.Proofs.YtkabcgmegljebaaGreatDoor.O
