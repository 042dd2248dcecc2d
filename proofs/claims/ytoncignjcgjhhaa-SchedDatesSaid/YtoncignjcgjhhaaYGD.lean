/- Contracts and facts of functions of the program (calendar, dates and their documents), joined in one text by a program of this session. No condition but what each theorem states. -/
import Derived.Test.YtoncignjcgjhhaaYGC
import Derived.Test.YtoncignjcgjhhaaRows
import Derived.Lib.SmallJoins
import Derived.Deep.Slices
import Derived.Deep.Fields
import Derived.ChangeSame
import Derived.ProofKit
import Derived.OpenShut
import Derived.ChangeOld
import Derived.SizedLaws
import Derived.Test.YtoncignjcgjhhaaYGA
set_option linter.unusedVariables false
set_option linter.unusedSimpArgs false
namespace Go.Proofs.Ytoncignjcgjhhaa.O
open Go.ChangeShapes Go.WideShapes Go.ChangeAt Go.RowKit Go.Deep Go.Joins
open Go.Proofs.YtoncignjcgjhhaaW.PrintWords
open Go.Proofs.Ytoncignjcgjhhaa.Q (S63 k63 k63_mk wfL wfL_of)
theorem i64_of {a : Int} (h : (Lit.int .i64 a).wf = true) : L.i64 a := by
 have hmin : IntKind.i64.min = -9223372036854775808 := rfl
 have hmax : IntKind.i64.max = 9223372036854775807 := rfl
 simp only [Lit.wf, Bool.and_eq_true, decide_eq_true_eq] at h
 unfold L.i64; omega
variable {K : Type} {enc : TypeId × Value → K} {W : World}
set_option maxRecDepth 100000 in
theorem rule_cells {n : Nat} {cs : List Value} {x : DataW K × List MemPlace} (h : DataW.trod enc Try.prog W 0 (fun _ => true) true n 63 cs = some x) (hl : cs.length = 9) :
  ∃ e : S63, H.wfS e ∧ cs = [.int .i64 e.f0, .int .i64 e.f1, .int .i64 e.f2, .int .i64 e.f3, .int .i64 e.f4, .int .i64 e.f5, .int .i64 e.f6, .int .i64 e.f7, .int .i64 e.f8] := by
 obtain ⟨ys, n', _, _, _, hyl, hf⟩ := DataW.trod_struct Try.underlying63 h
 have key : ∀ (j : Nat) (f : Field), j < 9 → (match Try.prog.underlying 63 with | some (.struct fs) => fs[j]? | _ => none) = some f → f.type = 3 → ∃ a, cs[j]? = some (.int .i64 a) ∧ (Lit.int .i64 a).wf = true := by
  intro j f hj hfj ht
  rw [Try.underlying63] at hfj
  obtain ⟨ho, hk⟩ := hone_of (P := Try.prog) (by kernel_rfl) j f hfj
  have h1 := hf j f hfj
  rw [ho, hk, ht] at h1
  have e1 : (cs.drop j).take 1 = [cs[j]'(by omega)] := by rw [List.drop_eq_getElem_cons (by omega)]; rfl
  rw [e1] at h1
  have hy : ys[j]? = some (ys[j]'(by rw [hyl]; exact (Array.getElem?_eq_some_iff.1 hfj).1)) := List.getElem?_eq_getElem _
  obtain ⟨a, e0, _, wa⟩ := DataW.trod_int Try.underlying3 (h1.trans hy)
  refine ⟨a, ?_, wa⟩
  rw [List.getElem?_eq_getElem (by omega)]
  exact congrArg some (List.cons.inj e0).1
 obtain ⟨a0, e0, w0⟩ := key 0 _ (by omega) (by rw [Try.underlying63]; rfl) rfl
 obtain ⟨a1, e1, w1⟩ := key 1 _ (by omega) (by rw [Try.underlying63]; rfl) rfl
 obtain ⟨a2, e2, w2⟩ := key 2 _ (by omega) (by rw [Try.underlying63]; rfl) rfl
 obtain ⟨a3, e3, w3⟩ := key 3 _ (by omega) (by rw [Try.underlying63]; rfl) rfl
 obtain ⟨a4, e4, w4⟩ := key 4 _ (by omega) (by rw [Try.underlying63]; rfl) rfl
 obtain ⟨a5, e5, w5⟩ := key 5 _ (by omega) (by rw [Try.underlying63]; rfl) rfl
 obtain ⟨a6, e6, w6⟩ := key 6 _ (by omega) (by rw [Try.underlying63]; rfl) rfl
 obtain ⟨a7, e7, w7⟩ := key 7 _ (by omega) (by rw [Try.underlying63]; rfl) rfl
 obtain ⟨a8, e8, w8⟩ := key 8 _ (by omega) (by rw [Try.underlying63]; rfl) rfl
 refine ⟨⟨a0, a1, a2, a3, a4, a5, a6, a7, a8⟩, ⟨i64_of w0, i64_of w1, i64_of w2, i64_of w3, i64_of w4, i64_of w5, i64_of w6, i64_of w7, i64_of w8⟩, ?_⟩
 match cs, hl with
 | [c0, c1, c2, c3, c4, c5, c6, c7, c8], _ =>
  simp only [List.getElem?_cons_zero, List.getElem?_cons_succ, Option.some.injEq] at e0 e1 e2 e3 e4 e5 e6 e7 e8
  subst e0 e1 e2 e3 e4 e5 e6 e7 e8
  rfl
theorem cells63 : Try.prog.cellsOf 63 = 9 := by kernel_rfl
theorem cells24 : Try.prog.cellsOf 24 = 2 := by kernel_rfl
set_option maxRecDepth 100000 in
theorem rules_open {n : Nat} {v : Value} {x : DataW K × List MemPlace} (h : DataW.trod enc Try.prog W 0 (fun _ => true) true n 22 [v] = some x) :
  ∃ (A : Option Addr) (c : Nat) (l : List S63), v = .slice A l.length c ∧ l.length ≤ c ∧ Kd.C k63 W A l.length l ∧ wfL l := by
 rcases open_slice Try.underlying22 h with ⟨hcs, _⟩ | ⟨a, len, cap, m, n', D, Pl, hcs, _, hl, hm, hmm, _, hel⟩
 ·
  injection hcs with hcs
  exact ⟨none, 0, [], hcs, Nat.le_refl _, ⟨rfl, by simp, fun h => absurd h (by simp)⟩, wfL_of (by simp)⟩
 ·
  injection hcs with hcs
  rw [if_pos rfl] at hmm
  subst hmm
  have key : ∀ i, i < len → ∃ e : S63, H.wfS e ∧ ∀ j u, [Value.int .i64 e.f0, .int .i64 e.f1, .int .i64 e.f2, .int .i64 e.f3, .int .i64 e.f4, .int .i64 e.f5, .int .i64 e.f6, .int .i64 e.f7, .int .i64 e.f8][j]? = some u → W.cell? (a.add (i * 9 + j)) = some u := by
   intro i hi
   obtain ⟨cs', hc, ht⟩ := hel i (by omega)
   rw [cells63] at hc
   obtain ⟨_, hcl, hat⟩ := World.cells?_some hc
   obtain ⟨e, hw, he⟩ := rule_cells ht hcl
   refine ⟨e, hw, fun j u hj => ?_⟩
   rw [← he] at hj
   have hjl : j < 9 := by have := (List.getElem?_eq_some_iff.1 hj).1; omega
   have hcell := hat j hjl
   rw [← Go.Deep.add_add, hcell, hj]
  let g : Nat → S63 := fun i => if hi : i < len then Classical.choose (key i hi) else Q.z63
  have hg : ∀ i (hi : i < len), g i = Classical.choose (key i hi) := fun i hi => dif_pos hi
  have hlen : ((List.range len).map g).length = len := by simp
  have hmax : maxLen = 9223372036854775807 := rfl
  refine ⟨some a, m, (List.range len).map g, by rw [hlen]; exact hcs, by rw [hlen]; exact hl, ⟨rfl, by rw [hlen]; omega, fun _ => ⟨a, rfl, fun j p hp => ?_⟩⟩, wfL_of fun x hx => ?_⟩
  ·
   have hj : j < len := by have := (List.getElem?_eq_some_iff.1 hp).1; rw [hlen] at this; exact this
   have hp' : g j = p := by
    have := hp
    rw [List.getElem?_map, List.getElem?_range hj] at this
    exact Option.some.inj this
   have hs := Classical.choose_spec (key j hj)
   rw [← hg j hj, hp'] at hs
   exact ⟨_, rfl, k63_mk W p, fun i u hu => hs.2 i u hu⟩
  ·
   obtain ⟨i, hi, rfl⟩ := List.mem_map.1 hx
   have hi := List.mem_range.1 hi
   rw [hg i hi]
   exact (Classical.choose_spec (key i hi)).1
set_option maxRecDepth 100000 in
theorem cal_open {r : Reach} {b0 : Nat} {v : Value} {d : DataW K} {p : List MemPlace} (hv : Value.okWide Try.prog W r b0 24 v) (h : DataW.Trod enc Try.prog W 0 (fun _ => true) true 24 v d p) :
  ∃ (we : Int) (A : Option Addr) (c : Nat) (l : List S63), v = .agg #[.int .i64 we, .slice A l.length c] ∧ l.length ≤ c ∧ Kd.C k63 W A l.length l ∧ wfL l ∧ L.i64 we := by
 obtain ⟨c0, c1, y0, y1, m, rfl, _, _, hy0, hy1⟩ := open_agg2 Try.underlying24 (by kernel_rfl) cells24 hv h
 obtain ⟨a, e0, _, wa⟩ := DataW.trod_int Try.underlying3 hy0
 obtain rfl := (List.cons.inj e0).1
 obtain ⟨A, c, l, rfl, hc, hk, hw⟩ := rules_open hy1
 exact ⟨a, A, c, l, rfl, hc, hk, hw, i64_of wa⟩
end Go.Proofs.Ytoncignjcgjhhaa.O
namespace Go.Proofs.Ytoncignjcgjhhaa.O
open Go.ChangeShapes Go.WideShapes Go.ChangeAt Go.RowKit Go.Deep Go.Joins
open Go.Proofs.YtoncignjcgjhhaaW.PrintWords
open Go.Proofs.Ytoncignjcgjhhaa.Q (S63 k63 k63_mk wfL wfL_of)
variable {K : Type} {enc : TypeId × Value → K} {W : World}
theorem cells66 : Try.prog.cellsOf 66 = 10 := by kernel_rfl
theorem cells3 : Try.prog.cellsOf 3 = 1 := by kernel_rfl
theorem cells22 : Try.prog.cellsOf 22 = 1 := by kernel_rfl
set_option maxRecDepth 100000 in
theorem spec_open {r : Reach} {b0 : Nat} {v : Value} {d : DataW K} {p : List MemPlace} (hv : Value.okWide Try.prog W r b0 66 v) (h : DataW.Trod enc Try.prog W 0 (fun _ => true) true 66 v d p) :
  ∃ (s0 s1 s2 s3 s4 s5 s6 s7 we : Int) (A : Option Addr) (c : Nat) (l : List S63), v = .agg #[.int .i64 s0, .int .i64 s1, .int .i64 s2, .int .i64 s3, .int .i64 s4, .int .i64 s5, .int .i64 s6, .int .i64 s7, .int .i64 we, .slice A l.length c] ∧ l.length ≤ c ∧ Kd.C k63 W A l.length l ∧ wfL l := by
 obtain ⟨cs, rfl, hsz⟩ := okWide_struct Try.underlying66 hv
 rw [cells66] at hsz
 obtain ⟨fuel, hf⟩ := h
 obtain ⟨ls⟩ := cs
 match ls, hsz with
 | [c0, c1, c2, c3, c4, c5, c6, c7, c8, c9], _ =>
  have hf' : DataW.trod enc Try.prog W 0 (fun _ => true) true fuel 66 [c0, c1, c2, c3, c4, c5, c6, c7, c8, c9] = some (d, p) := hf
  obtain ⟨ys, n', _, _, _, hyl, hfl⟩ := DataW.trod_struct Try.underlying66 hf'
  have hy : ∀ j, j < 9 → ∃ y, ys[j]? = some y := fun j hj => ⟨_, List.getElem?_eq_getElem (by rw [hyl]; exact hj)⟩
  have key : ∀ (j : Nat) (c : Value), j < 9 → DataW.trod enc Try.prog W 0 (fun _ => true) true n' 3 [c] = ys[j]? → ∃ a, c = .int .i64 a := by
   intro j c hj h1
   obtain ⟨y, e⟩ := hy j hj
   obtain ⟨a, e0, _, _⟩ := DataW.trod_int Try.underlying3 (h1.trans e)
   exact ⟨a, (List.cons.inj e0).1⟩
  have h0 : DataW.trod enc Try.prog W 0 (fun _ => true) true n' 3 (([c0, c1, c2, c3, c4, c5, c6, c7, c8, c9].drop 0).take (Try.prog.cellsOf 3)) = ys[0]? := hfl 0 _ rfl
  rw [cells3] at h0
  have h1 : DataW.trod enc Try.prog W 0 (fun _ => true) true n' 3 (([c0, c1, c2, c3, c4, c5, c6, c7, c8, c9].drop 1).take (Try.prog.cellsOf 3)) = ys[1]? := hfl 1 _ rfl
  rw [cells3] at h1
  have h2 : DataW.trod enc Try.prog W 0 (fun _ => true) true n' 3 (([c0, c1, c2, c3, c4, c5, c6, c7, c8, c9].drop 2).take (Try.prog.cellsOf 3)) = ys[2]? := hfl 2 _ rfl
  rw [cells3] at h2
  have h3 : DataW.trod enc Try.prog W 0 (fun _ => true) true n' 3 (([c0, c1, c2, c3, c4, c5, c6, c7, c8, c9].drop 3).take (Try.prog.cellsOf 3)) = ys[3]? := hfl 3 _ rfl
  rw [cells3] at h3
  have h4 : DataW.trod enc Try.prog W 0 (fun _ => true) true n' 3 (([c0, c1, c2, c3, c4, c5, c6, c7, c8, c9].drop 4).take (Try.prog.cellsOf 3)) = ys[4]? := hfl 4 _ rfl
  rw [cells3] at h4
  have h5 : DataW.trod enc Try.prog W 0 (fun _ => true) true n' 3 (([c0, c1, c2, c3, c4, c5, c6, c7, c8, c9].drop 5).take (Try.prog.cellsOf 3)) = ys[5]? := hfl 5 _ rfl
  rw [cells3] at h5
  have h6 : DataW.trod enc Try.prog W 0 (fun _ => true) true n' 3 (([c0, c1, c2, c3, c4, c5, c6, c7, c8, c9].drop 6).take (Try.prog.cellsOf 3)) = ys[6]? := hfl 6 _ rfl
  rw [cells3] at h6
  have h7 : DataW.trod enc Try.prog W 0 (fun _ => true) true n' 3 (([c0, c1, c2, c3, c4, c5, c6, c7, c8, c9].drop 7).take (Try.prog.cellsOf 3)) = ys[7]? := hfl 7 _ rfl
  rw [cells3] at h7
  have h8 : DataW.trod enc Try.prog W 0 (fun _ => true) true n' 24 (([c0, c1, c2, c3, c4, c5, c6, c7, c8, c9].drop 8).take (Try.prog.cellsOf 24)) = ys[8]? := hfl 8 _ rfl
  rw [cells24] at h8
  obtain ⟨s0, rfl⟩ := key 0 c0 (by omega) h0
  obtain ⟨s1, rfl⟩ := key 1 c1 (by omega) h1
  obtain ⟨s2, rfl⟩ := key 2 c2 (by omega) h2
  obtain ⟨s3, rfl⟩ := key 3 c3 (by omega) h3
  obtain ⟨s4, rfl⟩ := key 4 c4 (by omega) h4
  obtain ⟨s5, rfl⟩ := key 5 c5 (by omega) h5
  obtain ⟨s6, rfl⟩ := key 6 c6 (by omega) h6
  obtain ⟨s7, rfl⟩ := key 7 c7 (by omega) h7
  obtain ⟨y8, e8⟩ := hy 8 (by omega)
  have h8' : DataW.trod enc Try.prog W 0 (fun _ => true) true n' 24 [c8, c9] = some y8 := h8.trans e8
  obtain ⟨zs, n2, _, _, _, hzl, hz⟩ := DataW.trod_struct Try.underlying24 h8'
  have g0 : DataW.trod enc Try.prog W 0 (fun _ => true) true n2 3 (([c8, c9].drop 0).take (Try.prog.cellsOf 3)) = zs[0]? := hz 0 _ rfl
  have g1 : DataW.trod enc Try.prog W 0 (fun _ => true) true n2 22 (([c8, c9].drop 1).take (Try.prog.cellsOf 22)) = zs[1]? := hz 1 _ rfl
  rw [cells3] at g0
  rw [cells22] at g1
  have hz2 : ∀ j, j < 2 → ∃ y, zs[j]? = some y := fun j hj => ⟨_, List.getElem?_eq_getElem (by rw [hzl]; exact hj)⟩
  obtain ⟨z0, f0⟩ := hz2 0 (by omega)
  obtain ⟨z1, f1⟩ := hz2 1 (by omega)
  obtain ⟨we, e0, _, _⟩ := DataW.trod_int Try.underlying3 (g0.trans f0)
  obtain rfl := (List.cons.inj e0).1
  obtain ⟨A, c, l, e1, hc, hk, hw⟩ := rules_open (v := c9) (g1.trans f1)
  subst e1
  exact ⟨s0, s1, s2, s3, s4, s5, s6, s7, we, A, c, l, rfl, hc, hk, hw⟩
end Go.Proofs.Ytoncignjcgjhhaa.O
namespace Go.Proofs.Ytoncignjcgjhhaa.Q
open Go.RowKit Go.Proofs.YtoncignjcgjhhaaW.PrintWords Go.Proofs.YtoncignjcgjhhaaW.PrintLast Go.Proofs.YtoncignjcgjhhaaW.PrintMore
attribute [local go_sem] max2_int min2_int max_two min_two max_three min_three max_four min_four   -- for this text's walks alone
def tenorref6_in.f (a0 : Int) (a1 : Int) (a2 : Int) : Option (Bool) := if a0 ≥ a1 then (some (decide (a0 ≤ a2))) else (some false)
set_option maxHeartbeats 8000000 in
set_option maxRecDepth 100000 in
theorem tenorref6_in.calls (a0 : Int) (a1 : Int) (a2 : Int) (r : Bool) (w : World) (h : tenorref6_in.f a0 a1 a2 = some r) :
  Calls Try.prog 79 #[.int .i64 a0, .int .i64 a1, .int .i64 a2] w fun e w' => e = .returned (.bool r) ∧ Drawn0 w w' := by
 have H : (if a0 ≥ a1 then (some (decide (a0 ≤ a2))) else (some false)) = some r := h
 clear h
 by_cases c4 : a0 ≥ a1
 ·
  rw [if_pos c4] at H
  have c4b0 : decide (a1 ≤ a0) = true := decide_eq_true c4
  clear c4
  obtain rfl := Option.some.inj H
  go_enter Try.func79, Try.ntmps79
  go_wp2
  go_ret
  exact ⟨by first | rfl | (simp; done) | (simp [*]; done), by repeat (first | exact Drawn0.refl _ | apply Drawn0.step)⟩
 ·
  rw [if_neg c4] at H
  have c4b0 : decide (a1 ≤ a0) = false := decide_eq_false c4
  clear c4
  obtain rfl := Option.some.inj H
  go_enter Try.func79, Try.ntmps79
  go_wp2
  go_ret
  exact ⟨by first | rfl | (simp; done) | (simp [*]; done), by repeat (first | exact Drawn0.refl _ | apply Drawn0.step)⟩
end Go.Proofs.Ytoncignjcgjhhaa.Q
namespace Go.Proofs.Ytoncignjcgjhhaa.Q
open Go.RowKit Go.Proofs.YtoncignjcgjhhaaW.PrintWords Go.Proofs.YtoncignjcgjhhaaW.PrintLast Go.Proofs.YtoncignjcgjhhaaW.PrintMore
attribute [local go_sem] max2_int min2_int max_two min_two max_three min_three max_four min_four   -- for this text's walks alone
theorem eqA63 (d : Nat) (w : World) (x0 y0 : Int) (x1 y1 : Int) (x2 y2 : Int) (x3 y3 : Int) (x4 y4 : Int) (x5 y5 : Int) (x6 y6 : Int) (x7 y7 : Int) (x8 y8 : Int) :
  (Op.equalIn (d + 2) 63 (.agg #[.int .i64 x0, .int .i64 x1, .int .i64 x2, .int .i64 x3, .int .i64 x4, .int .i64 x5, .int .i64 x6, .int .i64 x7, .int .i64 x8]) (.agg #[.int .i64 y0, .int .i64 y1, .int .i64 y2, .int .i64 y3, .int .i64 y4, .int .i64 y5, .int .i64 y6, .int .i64 y7, .int .i64 y8])).run Try.prog w = .ok (x0 == y0 && (x1 == y1 && (x2 == y2 && (x3 == y3 && (x4 == y4 && (x5 == y5 && (x6 == y6 && (x7 == y7 && (x8 == y8))))))))) w := by
 refine eqA_of Try.underlying63 (by kernel_rfl) ?_
 refine eqf_cons (by rfl) (by go_simp; rfl) (by go_simp; rfl) (by go_simp) ?_
 refine eqf_cons (by rfl) (by go_simp; rfl) (by go_simp; rfl) (by go_simp) ?_
 refine eqf_cons (by rfl) (by go_simp; rfl) (by go_simp; rfl) (by go_simp) ?_
 refine eqf_cons (by rfl) (by go_simp; rfl) (by go_simp; rfl) (by go_simp) ?_
 refine eqf_cons (by rfl) (by go_simp; rfl) (by go_simp; rfl) (by go_simp) ?_
 refine eqf_cons (by rfl) (by go_simp; rfl) (by go_simp; rfl) (by go_simp) ?_
 refine eqf_cons (by rfl) (by go_simp; rfl) (by go_simp; rfl) (by go_simp) ?_
 refine eqf_cons (by rfl) (by go_simp; rfl) (by go_simp; rfl) (by go_simp) ?_
 exact eqf_last (by rfl) (by go_simp; rfl) (by go_simp; rfl) (by go_simp)
end Go.Proofs.Ytoncignjcgjhhaa.Q
namespace Go.Proofs.Ytoncignjcgjhhaa.H
open Go.RowKit Go.Maps Go.Proofs.YtoncignjcgjhhaaW.PrintWords Go.Proofs.YtoncignjcgjhhaaW.PrintLast Go.Proofs.YtoncignjcgjhhaaW.PrintMore
open Go.Proofs.Ytoncignjcgjhhaa.Q (S63 k63 z63 eqA63)
attribute [local go_sem high] eqA63
theorem in6_calls (a b c : Int) (r : Bool) (hr : decide (b ≤ a ∧ a ≤ c) = r) (w : World) :
  Calls Try.prog 79 #[.int .i64 a, .int .i64 b, .int .i64 c] w fun e w' => e = .returned (.bool r) ∧ Drawn0 w w' :=
 Q.tenorref6_in.calls a b c r w (by have := L.within a b c; unfold Q.cal_within.f at this; unfold Q.tenorref6_in.f; rw [this, hr])
def Fits (b : Bool) (w : World) (e : Ending) (w' : World) : Prop := e = .returned (.bool b) ∧ Below w.heap.size w w'
set_option maxHeartbeats 1000000 in
set_option maxRecDepth 100000 in
theorem fit_4 (a1 a2 a3 a4 a5 a6 a7 a8 : Int) (w : World) (b : Bool) (hb : decide (0 ≤ a2 ∧ a2 ≤ 109572) = b) (hz : a1 = 0 ∧ a3 = 0 ∧ a4 = 0 ∧ a5 = 0 ∧ a6 = 0 ∧ a7 = 0 ∧ a8 = 0) :
  Calls Try.prog 85 #[.agg #[.int .i64 4, .int .i64 a1, .int .i64 a2, .int .i64 a3, .int .i64 a4, .int .i64 a5, .int .i64 a6, .int .i64 a7, .int .i64 a8]] w (Fits b w) := by
 obtain ⟨rfl, rfl, rfl, rfl, rfl, rfl, rfl⟩ := hz
 go_enter Try.func85, Try.ntmps85
 go_wp2_with (go_at_call 79; refine (in6_calls _ _ _ _ (by assumption) _).mono ?_; rintro e w' ⟨rfl, ⟨n0, rfl⟩⟩)
 go_ret
 exact ⟨rfl, by repeat (with_reducible first | exact Below.refl _ _ | apply pw_below_drewN | apply below_drew1 | apply below_alloc | refine below_set ?_ (by simp))⟩
set_option maxHeartbeats 2000000 in
set_option maxRecDepth 100000 in
theorem fit_4n0 (a1 a2 a3 a4 a5 a6 a7 a8 : Int) (w : World) (hz : ¬ a1 = 0) : Calls Try.prog 85 #[.agg #[.int .i64 4, .int .i64 a1, .int .i64 a2, .int .i64 a3, .int .i64 a4, .int .i64 a5, .int .i64 a6, .int .i64 a7, .int .i64 a8]] w (Fits false w) := by
 have kz : (a1 == 0) = false := by simpa using hz
 clear hz
 go_enter Try.func85, Try.ntmps85
 go_wp2_with (go_at_call 79; refine (in6_calls _ _ _ _ (by assumption) _).mono ?_; rintro e w' ⟨rfl, ⟨n0, rfl⟩⟩)
 go_ret
 exact ⟨rfl, by repeat (with_reducible first | exact Below.refl _ _ | apply pw_below_drewN | apply below_drew1 | apply below_alloc | refine below_set ?_ (by simp))⟩
set_option maxHeartbeats 2000000 in
set_option maxRecDepth 100000 in
theorem fit_4n1 (a2 a3 a4 a5 a6 a7 a8 : Int) (w : World) (hz : ¬ a3 = 0) : Calls Try.prog 85 #[.agg #[.int .i64 4, .int .i64 0, .int .i64 a2, .int .i64 a3, .int .i64 a4, .int .i64 a5, .int .i64 a6, .int .i64 a7, .int .i64 a8]] w (Fits false w) := by
 have kz : (a3 == 0) = false := by simpa using hz
 clear hz
 go_enter Try.func85, Try.ntmps85
 go_wp2_with (go_at_call 79; refine (in6_calls _ _ _ _ (by assumption) _).mono ?_; rintro e w' ⟨rfl, ⟨n0, rfl⟩⟩)
 go_ret
 exact ⟨rfl, by repeat (with_reducible first | exact Below.refl _ _ | apply pw_below_drewN | apply below_drew1 | apply below_alloc | refine below_set ?_ (by simp))⟩
set_option maxHeartbeats 2000000 in
set_option maxRecDepth 100000 in
theorem fit_4n2 (a2 a4 a5 a6 a7 a8 : Int) (w : World) (hz : ¬ a4 = 0) : Calls Try.prog 85 #[.agg #[.int .i64 4, .int .i64 0, .int .i64 a2, .int .i64 0, .int .i64 a4, .int .i64 a5, .int .i64 a6, .int .i64 a7, .int .i64 a8]] w (Fits false w) := by
 have kz : (a4 == 0) = false := by simpa using hz
 clear hz
 go_enter Try.func85, Try.ntmps85
 go_wp2_with (go_at_call 79; refine (in6_calls _ _ _ _ (by assumption) _).mono ?_; rintro e w' ⟨rfl, ⟨n0, rfl⟩⟩)
 go_ret
 exact ⟨rfl, by repeat (with_reducible first | exact Below.refl _ _ | apply pw_below_drewN | apply below_drew1 | apply below_alloc | refine below_set ?_ (by simp))⟩
set_option maxHeartbeats 2000000 in
set_option maxRecDepth 100000 in
theorem fit_4n3 (a2 a5 a6 a7 a8 : Int) (w : World) (hz : ¬ a5 = 0) : Calls Try.prog 85 #[.agg #[.int .i64 4, .int .i64 0, .int .i64 a2, .int .i64 0, .int .i64 0, .int .i64 a5, .int .i64 a6, .int .i64 a7, .int .i64 a8]] w (Fits false w) := by
 have kz : (a5 == 0) = false := by simpa using hz
 clear hz
 go_enter Try.func85, Try.ntmps85
 go_wp2_with (go_at_call 79; refine (in6_calls _ _ _ _ (by assumption) _).mono ?_; rintro e w' ⟨rfl, ⟨n0, rfl⟩⟩)
 go_ret
 exact ⟨rfl, by repeat (with_reducible first | exact Below.refl _ _ | apply pw_below_drewN | apply below_drew1 | apply below_alloc | refine below_set ?_ (by simp))⟩
set_option maxHeartbeats 2000000 in
set_option maxRecDepth 100000 in
theorem fit_4n4 (a2 a6 a7 a8 : Int) (w : World) (hz : ¬ a6 = 0) : Calls Try.prog 85 #[.agg #[.int .i64 4, .int .i64 0, .int .i64 a2, .int .i64 0, .int .i64 0, .int .i64 0, .int .i64 a6, .int .i64 a7, .int .i64 a8]] w (Fits false w) := by
 have kz : (a6 == 0) = false := by simpa using hz
 clear hz
 go_enter Try.func85, Try.ntmps85
 go_wp2_with (go_at_call 79; refine (in6_calls _ _ _ _ (by assumption) _).mono ?_; rintro e w' ⟨rfl, ⟨n0, rfl⟩⟩)
 go_ret
 exact ⟨rfl, by repeat (with_reducible first | exact Below.refl _ _ | apply pw_below_drewN | apply below_drew1 | apply below_alloc | refine below_set ?_ (by simp))⟩
set_option maxHeartbeats 2000000 in
set_option maxRecDepth 100000 in
theorem fit_4n5 (a2 a7 a8 : Int) (w : World) (hz : ¬ a7 = 0) : Calls Try.prog 85 #[.agg #[.int .i64 4, .int .i64 0, .int .i64 a2, .int .i64 0, .int .i64 0, .int .i64 0, .int .i64 0, .int .i64 a7, .int .i64 a8]] w (Fits false w) := by
 have kz : (a7 == 0) = false := by simpa using hz
 clear hz
 go_enter Try.func85, Try.ntmps85
 go_wp2_with (go_at_call 79; refine (in6_calls _ _ _ _ (by assumption) _).mono ?_; rintro e w' ⟨rfl, ⟨n0, rfl⟩⟩)
 go_ret
 exact ⟨rfl, by repeat (with_reducible first | exact Below.refl _ _ | apply pw_below_drewN | apply below_drew1 | apply below_alloc | refine below_set ?_ (by simp))⟩
set_option maxHeartbeats 2000000 in
set_option maxRecDepth 100000 in
theorem fit_4n6 (a2 a8 : Int) (w : World) (hz : ¬ a8 = 0) : Calls Try.prog 85 #[.agg #[.int .i64 4, .int .i64 0, .int .i64 a2, .int .i64 0, .int .i64 0, .int .i64 0, .int .i64 0, .int .i64 0, .int .i64 a8]] w (Fits false w) := by
 have kz : (a8 == 0) = false := by simpa using hz
 clear hz
 go_enter Try.func85, Try.ntmps85
 go_wp2_with (go_at_call 79; refine (in6_calls _ _ _ _ (by assumption) _).mono ?_; rintro e w' ⟨rfl, ⟨n0, rfl⟩⟩)
 go_ret
 exact ⟨rfl, by repeat (with_reducible first | exact Below.refl _ _ | apply pw_below_drewN | apply below_drew1 | apply below_alloc | refine below_set ?_ (by simp))⟩
set_option maxHeartbeats 1000000 in
set_option maxRecDepth 100000 in
theorem fit_y (a0 : Int) (a1 a2 a3 a4 a5 a6 a7 a8 : Int) (w : World) (h4 : ¬ a0 = 4) (h : ¬ (1900 ≤ a6 ∧ a6 ≤ 2199 ∧ a6 ≤ a7 ∧ a7 ≤ 2199 ∧ 0 ≤ a8 ∧ a8 ≤ 2)) :
  Calls Try.prog 85 #[.agg #[.int .i64 a0, .int .i64 a1, .int .i64 a2, .int .i64 a3, .int .i64 a4, .int .i64 a5, .int .i64 a6, .int .i64 a7, .int .i64 a8]] w (Fits false w) := by
 have g4 : (a0 == 4) = false := by simpa using h4
 by_cases h6 : 1900 ≤ a6 ∧ a6 ≤ 2199
 ·
  have g6 := decide_eq_true h6
  by_cases h7 : a6 ≤ a7 ∧ a7 ≤ 2199
  ·
   have g7 := decide_eq_true h7
   have g8 : decide (0 ≤ a8 ∧ a8 ≤ 2) = false := decide_eq_false (by omega)
   clear h6 h7 h h4
   go_enter Try.func85, Try.ntmps85
   go_wp2_with (go_at_call 79; refine (in6_calls _ _ _ _ (by assumption) _).mono ?_; rintro e w' ⟨rfl, ⟨n0, rfl⟩⟩)
   go_ret
   exact ⟨rfl, by repeat (with_reducible first | exact Below.refl _ _ | apply pw_below_drewN | apply below_drew1 | apply below_alloc | refine below_set ?_ (by simp))⟩
  ·
   have g7 := decide_eq_false h7;clear h6 h7 h h4
   go_enter Try.func85, Try.ntmps85
   go_wp2_with (go_at_call 79; refine (in6_calls _ _ _ _ (by assumption) _).mono ?_; rintro e w' ⟨rfl, ⟨n0, rfl⟩⟩)
   go_ret
   exact ⟨rfl, by repeat (with_reducible first | exact Below.refl _ _ | apply pw_below_drewN | apply below_drew1 | apply below_alloc | refine below_set ?_ (by simp))⟩
 ·
  have g6 := decide_eq_false h6;clear h6 h h4
  go_enter Try.func85, Try.ntmps85
  go_wp2_with (go_at_call 79; refine (in6_calls _ _ _ _ (by assumption) _).mono ?_; rintro e w' ⟨rfl, ⟨n0, rfl⟩⟩)
  go_ret
  exact ⟨rfl, by repeat (with_reducible first | exact Below.refl _ _ | apply pw_below_drewN | apply below_drew1 | apply below_alloc | refine below_set ?_ (by simp))⟩
set_option maxHeartbeats 1000000 in
set_option maxRecDepth 100000 in
theorem fit_0 (a0 : Int) (a1 a2 a3 a4 a5 a6 a7 a8 : Int) (w : World) (g6 : decide (1900 ≤ a6 ∧ a6 ≤ 2199) = true) (g7 : decide (a6 ≤ a7 ∧ a7 ≤ 2199) = true) (g8 : decide (0 ≤ a8 ∧ a8 ≤ 2) = true) (h1 : ¬ a0 = 1) (h2 : ¬ a0 = 2) (h3 : ¬ a0 = 3) (h4 : ¬ a0 = 4) :
  Calls Try.prog 85 #[.agg #[.int .i64 a0, .int .i64 a1, .int .i64 a2, .int .i64 a3, .int .i64 a4, .int .i64 a5, .int .i64 a6, .int .i64 a7, .int .i64 a8]] w (Fits false w) := by
 have k1 : (a0 == 1) = false := by simpa using h1
 have k2 : (a0 == 2) = false := by simpa using h2
 have k3 : (a0 == 3) = false := by simpa using h3
 have k4 : (a0 == 4) = false := by simpa using h4
 clear h1 h2 h3 h4
 go_enter Try.func85, Try.ntmps85
 go_wp2_with (go_at_call 79; refine (in6_calls _ _ _ _ (by assumption) _).mono ?_; rintro e w' ⟨rfl, ⟨n0, rfl⟩⟩)
 go_ret
 exact ⟨rfl, by repeat (with_reducible first | exact Below.refl _ _ | apply pw_below_drewN | apply below_drew1 | apply below_alloc | refine below_set ?_ (by simp))⟩
set_option maxHeartbeats 2000000 in
set_option maxRecDepth 100000 in
theorem fit_2n0 (a1 a2 a3 a4 a5 a6 a7 a8 : Int) (w : World) (g6 : decide (1900 ≤ a6 ∧ a6 ≤ 2199) = true) (g7 : decide (a6 ≤ a7 ∧ a7 ≤ 2199) = true) (g8 : decide (0 ≤ a8 ∧ a8 ≤ 2) = true) (hz : ¬ a2 = 0) : Calls Try.prog 85 #[.agg #[.int .i64 2, .int .i64 a1, .int .i64 a2, .int .i64 a3, .int .i64 a4, .int .i64 a5, .int .i64 a6, .int .i64 a7, .int .i64 a8]] w (Fits false w) := by
 have kz : (a2 == 0) = false := by simpa using hz
 clear hz
 go_enter Try.func85, Try.ntmps85
 go_wp2_with (go_at_call 79; refine (in6_calls _ _ _ _ (by assumption) _).mono ?_; rintro e w' ⟨rfl, ⟨n0, rfl⟩⟩)
 go_ret
 exact ⟨rfl, by repeat (with_reducible first | exact Below.refl _ _ | apply pw_below_drewN | apply below_drew1 | apply below_alloc | refine below_set ?_ (by simp))⟩
set_option maxHeartbeats 2000000 in
set_option maxRecDepth 100000 in
theorem fit_2n1 (a1 a3 a4 a5 a6 a7 a8 : Int) (w : World) (g6 : decide (1900 ≤ a6 ∧ a6 ≤ 2199) = true) (g7 : decide (a6 ≤ a7 ∧ a7 ≤ 2199) = true) (g8 : decide (0 ≤ a8 ∧ a8 ≤ 2) = true) (hz : ¬ a5 = 0) : Calls Try.prog 85 #[.agg #[.int .i64 2, .int .i64 a1, .int .i64 0, .int .i64 a3, .int .i64 a4, .int .i64 a5, .int .i64 a6, .int .i64 a7, .int .i64 a8]] w (Fits false w) := by
 have kz : (a5 == 0) = false := by simpa using hz
 clear hz
 go_enter Try.func85, Try.ntmps85
 go_wp2_with (go_at_call 79; refine (in6_calls _ _ _ _ (by assumption) _).mono ?_; rintro e w' ⟨rfl, ⟨n0, rfl⟩⟩)
 go_ret
 exact ⟨rfl, by repeat (with_reducible first | exact Below.refl _ _ | apply pw_below_drewN | apply below_drew1 | apply below_alloc | refine below_set ?_ (by simp))⟩
set_option maxHeartbeats 2000000 in
set_option maxRecDepth 100000 in
theorem fit_2c0 (a1 a3 a4 a6 a7 a8 : Int) (w : World) (g6 : decide (1900 ≤ a6 ∧ a6 ≤ 2199) = true) (g7 : decide (a6 ≤ a7 ∧ a7 ≤ 2199) = true) (g8 : decide (0 ≤ a8 ∧ a8 ≤ 2) = true)  (c0 : decide (1 ≤ a1 ∧ a1 ≤ 12) = false) : Calls Try.prog 85 #[.agg #[.int .i64 2, .int .i64 a1, .int .i64 0, .int .i64 a3, .int .i64 a4, .int .i64 0, .int .i64 a6, .int .i64 a7, .int .i64 a8]] w (Fits false w) := by
 go_enter Try.func85, Try.ntmps85
 go_wp2_with (go_at_call 79; refine (in6_calls _ _ _ _ (by assumption) _).mono ?_; rintro e w' ⟨rfl, ⟨n0, rfl⟩⟩)
 go_ret
 exact ⟨rfl, by repeat (with_reducible first | exact Below.refl _ _ | apply pw_below_drewN | apply below_drew1 | apply below_alloc | refine below_set ?_ (by simp))⟩
set_option maxHeartbeats 2000000 in
set_option maxRecDepth 100000 in
theorem fit_2c1 (a1 a3 a4 a6 a7 a8 : Int) (w : World) (g6 : decide (1900 ≤ a6 ∧ a6 ≤ 2199) = true) (g7 : decide (a6 ≤ a7 ∧ a7 ≤ 2199) = true) (g8 : decide (0 ≤ a8 ∧ a8 ≤ 2) = true) (c0 : decide (1 ≤ a1 ∧ a1 ≤ 12) = true) (c1 : decide (0 ≤ a4 ∧ a4 ≤ 6) = false) : Calls Try.prog 85 #[.agg #[.int .i64 2, .int .i64 a1, .int .i64 0, .int .i64 a3, .int .i64 a4, .int .i64 0, .int .i64 a6, .int .i64 a7, .int .i64 a8]] w (Fits false w) := by
 go_enter Try.func85, Try.ntmps85
 go_wp2_with (go_at_call 79; refine (in6_calls _ _ _ _ (by assumption) _).mono ?_; rintro e w' ⟨rfl, ⟨n0, rfl⟩⟩)
 go_ret
 exact ⟨rfl, by repeat (with_reducible first | exact Below.refl _ _ | apply pw_below_drewN | apply below_drew1 | apply below_alloc | refine below_set ?_ (by simp))⟩
set_option maxHeartbeats 2000000 in
set_option maxRecDepth 100000 in
theorem fit_2c2 (a1 a3 a4 a6 a7 a8 : Int) (w : World) (g6 : decide (1900 ≤ a6 ∧ a6 ≤ 2199) = true) (g7 : decide (a6 ≤ a7 ∧ a7 ≤ 2199) = true) (g8 : decide (0 ≤ a8 ∧ a8 ≤ 2) = true) (c0 : decide (1 ≤ a1 ∧ a1 ≤ 12) = true) (c1 : decide (0 ≤ a4 ∧ a4 ≤ 6) = true) (c2 : decide (1 ≤ a3 ∧ a3 ≤ 5) = false) : Calls Try.prog 85 #[.agg #[.int .i64 2, .int .i64 a1, .int .i64 0, .int .i64 a3, .int .i64 a4, .int .i64 0, .int .i64 a6, .int .i64 a7, .int .i64 a8]] w (Fits false w) := by
 go_enter Try.func85, Try.ntmps85
 go_wp2_with (go_at_call 79; refine (in6_calls _ _ _ _ (by assumption) _).mono ?_; rintro e w' ⟨rfl, ⟨n0, rfl⟩⟩)
 go_ret
 exact ⟨rfl, by repeat (with_reducible first | exact Below.refl _ _ | apply pw_below_drewN | apply below_drew1 | apply below_alloc | refine below_set ?_ (by simp))⟩
set_option maxHeartbeats 2000000 in
set_option maxRecDepth 100000 in
theorem fit_2c3 (a1 a3 a4 a6 a7 a8 : Int) (w : World) (g6 : decide (1900 ≤ a6 ∧ a6 ≤ 2199) = true) (g7 : decide (a6 ≤ a7 ∧ a7 ≤ 2199) = true) (g8 : decide (0 ≤ a8 ∧ a8 ≤ 2) = true) (c0 : decide (1 ≤ a1 ∧ a1 ≤ 12) = true) (c1 : decide (0 ≤ a4 ∧ a4 ≤ 6) = true) (c2 : decide (1 ≤ a3 ∧ a3 ≤ 5) = true) : Calls Try.prog 85 #[.agg #[.int .i64 2, .int .i64 a1, .int .i64 0, .int .i64 a3, .int .i64 a4, .int .i64 0, .int .i64 a6, .int .i64 a7, .int .i64 a8]] w (Fits true w) := by
 go_enter Try.func85, Try.ntmps85
 go_wp2_with (go_at_call 79; refine (in6_calls _ _ _ _ (by assumption) _).mono ?_; rintro e w' ⟨rfl, ⟨n0, rfl⟩⟩)
 go_ret
 exact ⟨rfl, by repeat (with_reducible first | exact Below.refl _ _ | apply pw_below_drewN | apply below_drew1 | apply below_alloc | refine below_set ?_ (by simp))⟩
set_option maxHeartbeats 2000000 in
set_option maxRecDepth 100000 in
theorem fit_3n0 (a1 a2 a3 a4 a5 a6 a7 a8 : Int) (w : World) (g6 : decide (1900 ≤ a6 ∧ a6 ≤ 2199) = true) (g7 : decide (a6 ≤ a7 ∧ a7 ≤ 2199) = true) (g8 : decide (0 ≤ a8 ∧ a8 ≤ 2) = true) (hz : ¬ a1 = 0) : Calls Try.prog 85 #[.agg #[.int .i64 3, .int .i64 a1, .int .i64 a2, .int .i64 a3, .int .i64 a4, .int .i64 a5, .int .i64 a6, .int .i64 a7, .int .i64 a8]] w (Fits false w) := by
 have kz : (a1 == 0) = false := by simpa using hz
 clear hz
 go_enter Try.func85, Try.ntmps85
 go_wp2_with (go_at_call 79; refine (in6_calls _ _ _ _ (by assumption) _).mono ?_; rintro e w' ⟨rfl, ⟨n0, rfl⟩⟩)
 go_ret
 exact ⟨rfl, by repeat (with_reducible first | exact Below.refl _ _ | apply pw_below_drewN | apply below_drew1 | apply below_alloc | refine below_set ?_ (by simp))⟩
set_option maxHeartbeats 2000000 in
set_option maxRecDepth 100000 in
theorem fit_3n1 (a2 a3 a4 a5 a6 a7 a8 : Int) (w : World) (g6 : decide (1900 ≤ a6 ∧ a6 ≤ 2199) = true) (g7 : decide (a6 ≤ a7 ∧ a7 ≤ 2199) = true) (g8 : decide (0 ≤ a8 ∧ a8 ≤ 2) = true) (hz : ¬ a2 = 0) : Calls Try.prog 85 #[.agg #[.int .i64 3, .int .i64 0, .int .i64 a2, .int .i64 a3, .int .i64 a4, .int .i64 a5, .int .i64 a6, .int .i64 a7, .int .i64 a8]] w (Fits false w) := by
 have kz : (a2 == 0) = false := by simpa using hz
 clear hz
 go_enter Try.func85, Try.ntmps85
 go_wp2_with (go_at_call 79; refine (in6_calls _ _ _ _ (by assumption) _).mono ?_; rintro e w' ⟨rfl, ⟨n0, rfl⟩⟩)
 go_ret
 exact ⟨rfl, by repeat (with_reducible first | exact Below.refl _ _ | apply pw_below_drewN | apply below_drew1 | apply below_alloc | refine below_set ?_ (by simp))⟩
set_option maxHeartbeats 2000000 in
set_option maxRecDepth 100000 in
theorem fit_3n2 (a3 a4 a5 a6 a7 a8 : Int) (w : World) (g6 : decide (1900 ≤ a6 ∧ a6 ≤ 2199) = true) (g7 : decide (a6 ≤ a7 ∧ a7 ≤ 2199) = true) (g8 : decide (0 ≤ a8 ∧ a8 ≤ 2) = true) (hz : ¬ a3 = 0) : Calls Try.prog 85 #[.agg #[.int .i64 3, .int .i64 0, .int .i64 0, .int .i64 a3, .int .i64 a4, .int .i64 a5, .int .i64 a6, .int .i64 a7, .int .i64 a8]] w (Fits false w) := by
 have kz : (a3 == 0) = false := by simpa using hz
 clear hz
 go_enter Try.func85, Try.ntmps85
 go_wp2_with (go_at_call 79; refine (in6_calls _ _ _ _ (by assumption) _).mono ?_; rintro e w' ⟨rfl, ⟨n0, rfl⟩⟩)
 go_ret
 exact ⟨rfl, by repeat (with_reducible first | exact Below.refl _ _ | apply pw_below_drewN | apply below_drew1 | apply below_alloc | refine below_set ?_ (by simp))⟩
set_option maxHeartbeats 2000000 in
set_option maxRecDepth 100000 in
theorem fit_3n3 (a4 a5 a6 a7 a8 : Int) (w : World) (g6 : decide (1900 ≤ a6 ∧ a6 ≤ 2199) = true) (g7 : decide (a6 ≤ a7 ∧ a7 ≤ 2199) = true) (g8 : decide (0 ≤ a8 ∧ a8 ≤ 2) = true) (hz : ¬ a4 = 0) : Calls Try.prog 85 #[.agg #[.int .i64 3, .int .i64 0, .int .i64 0, .int .i64 0, .int .i64 a4, .int .i64 a5, .int .i64 a6, .int .i64 a7, .int .i64 a8]] w (Fits false w) := by
 have kz : (a4 == 0) = false := by simpa using hz
 clear hz
 go_enter Try.func85, Try.ntmps85
 go_wp2_with (go_at_call 79; refine (in6_calls _ _ _ _ (by assumption) _).mono ?_; rintro e w' ⟨rfl, ⟨n0, rfl⟩⟩)
 go_ret
 exact ⟨rfl, by repeat (with_reducible first | exact Below.refl _ _ | apply pw_below_drewN | apply below_drew1 | apply below_alloc | refine below_set ?_ (by simp))⟩
set_option maxHeartbeats 2000000 in
set_option maxRecDepth 100000 in
theorem fit_3c0 (a5 a6 a7 a8 : Int) (w : World) (g6 : decide (1900 ≤ a6 ∧ a6 ≤ 2199) = true) (g7 : decide (a6 ≤ a7 ∧ a7 ≤ 2199) = true) (g8 : decide (0 ≤ a8 ∧ a8 ≤ 2) = true)  (c0 : decide (-100 ≤ a5 ∧ a5 ≤ 100) = false) : Calls Try.prog 85 #[.agg #[.int .i64 3, .int .i64 0, .int .i64 0, .int .i64 0, .int .i64 0, .int .i64 a5, .int .i64 a6, .int .i64 a7, .int .i64 a8]] w (Fits false w) := by
 go_enter Try.func85, Try.ntmps85
 go_wp2_with (go_at_call 79; refine (in6_calls _ _ _ _ (by assumption) _).mono ?_; rintro e w' ⟨rfl, ⟨n0, rfl⟩⟩)
 go_ret
 exact ⟨rfl, by repeat (with_reducible first | exact Below.refl _ _ | apply pw_below_drewN | apply below_drew1 | apply below_alloc | refine below_set ?_ (by simp))⟩
set_option maxHeartbeats 2000000 in
set_option maxRecDepth 100000 in
theorem fit_3c1 (a5 a6 a7 a8 : Int) (w : World) (g6 : decide (1900 ≤ a6 ∧ a6 ≤ 2199) = true) (g7 : decide (a6 ≤ a7 ∧ a7 ≤ 2199) = true) (g8 : decide (0 ≤ a8 ∧ a8 ≤ 2) = true) (c0 : decide (-100 ≤ a5 ∧ a5 ≤ 100) = true) : Calls Try.prog 85 #[.agg #[.int .i64 3, .int .i64 0, .int .i64 0, .int .i64 0, .int .i64 0, .int .i64 a5, .int .i64 a6, .int .i64 a7, .int .i64 a8]] w (Fits true w) := by
 go_enter Try.func85, Try.ntmps85
 go_wp2_with (go_at_call 79; refine (in6_calls _ _ _ _ (by assumption) _).mono ?_; rintro e w' ⟨rfl, ⟨n0, rfl⟩⟩)
 go_ret
 exact ⟨rfl, by repeat (with_reducible first | exact Below.refl _ _ | apply pw_below_drewN | apply below_drew1 | apply below_alloc | refine below_set ?_ (by simp))⟩
set_option maxHeartbeats 2000000 in
set_option maxRecDepth 100000 in
theorem fit_1n0 (a1 a2 a3 a4 a5 a6 a7 a8 : Int) (w : World) (g6 : decide (1900 ≤ a6 ∧ a6 ≤ 2199) = true) (g7 : decide (a6 ≤ a7 ∧ a7 ≤ 2199) = true) (g8 : decide (0 ≤ a8 ∧ a8 ≤ 2) = true) (hz : ¬ a3 = 0) : Calls Try.prog 85 #[.agg #[.int .i64 1, .int .i64 a1, .int .i64 a2, .int .i64 a3, .int .i64 a4, .int .i64 a5, .int .i64 a6, .int .i64 a7, .int .i64 a8]] w (Fits false w) := by
 have kz : (a3 == 0) = false := by simpa using hz
 clear hz
 go_enter Try.func85, Try.ntmps85
 go_wp2_with (go_at_call 79; refine (in6_calls _ _ _ _ (by assumption) _).mono ?_; rintro e w' ⟨rfl, ⟨n0, rfl⟩⟩)
 go_quiet ((go_at_call 79; exact Calls.quiet_of ((in6_calls _ _ _ _ (by assumption) _).mono fun _ _ h => ⟨h.1, h.2.out⟩)))
 go_wp2_with fail
 go_ret
 exact ⟨rfl, by repeat (with_reducible first | exact Below.refl _ _ | apply pw_below_drewN | apply below_drew1 | apply below_alloc | refine below_set ?_ (by simp))⟩
set_option maxHeartbeats 2000000 in
set_option maxRecDepth 100000 in
theorem fit_1n1 (a1 a2 a4 a5 a6 a7 a8 : Int) (w : World) (g6 : decide (1900 ≤ a6 ∧ a6 ≤ 2199) = true) (g7 : decide (a6 ≤ a7 ∧ a7 ≤ 2199) = true) (g8 : decide (0 ≤ a8 ∧ a8 ≤ 2) = true) (hz : ¬ a4 = 0) : Calls Try.prog 85 #[.agg #[.int .i64 1, .int .i64 a1, .int .i64 a2, .int .i64 0, .int .i64 a4, .int .i64 a5, .int .i64 a6, .int .i64 a7, .int .i64 a8]] w (Fits false w) := by
 have kz : (a4 == 0) = false := by simpa using hz
 clear hz
 go_enter Try.func85, Try.ntmps85
 go_wp2_with (go_at_call 79; refine (in6_calls _ _ _ _ (by assumption) _).mono ?_; rintro e w' ⟨rfl, ⟨n0, rfl⟩⟩)
 go_quiet ((go_at_call 79; exact Calls.quiet_of ((in6_calls _ _ _ _ (by assumption) _).mono fun _ _ h => ⟨h.1, h.2.out⟩)))
 go_wp2_with fail
 go_ret
 exact ⟨rfl, by repeat (with_reducible first | exact Below.refl _ _ | apply pw_below_drewN | apply below_drew1 | apply below_alloc | refine below_set ?_ (by simp))⟩
set_option maxHeartbeats 2000000 in
set_option maxRecDepth 100000 in
theorem fit_1n2 (a1 a2 a5 a6 a7 a8 : Int) (w : World) (g6 : decide (1900 ≤ a6 ∧ a6 ≤ 2199) = true) (g7 : decide (a6 ≤ a7 ∧ a7 ≤ 2199) = true) (g8 : decide (0 ≤ a8 ∧ a8 ≤ 2) = true) (hz : ¬ a5 = 0) : Calls Try.prog 85 #[.agg #[.int .i64 1, .int .i64 a1, .int .i64 a2, .int .i64 0, .int .i64 0, .int .i64 a5, .int .i64 a6, .int .i64 a7, .int .i64 a8]] w (Fits false w) := by
 have kz : (a5 == 0) = false := by simpa using hz
 clear hz
 go_enter Try.func85, Try.ntmps85
 go_wp2_with (go_at_call 79; refine (in6_calls _ _ _ _ (by assumption) _).mono ?_; rintro e w' ⟨rfl, ⟨n0, rfl⟩⟩)
 go_quiet ((go_at_call 79; exact Calls.quiet_of ((in6_calls _ _ _ _ (by assumption) _).mono fun _ _ h => ⟨h.1, h.2.out⟩)))
 go_wp2_with fail
 go_ret
 exact ⟨rfl, by repeat (with_reducible first | exact Below.refl _ _ | apply pw_below_drewN | apply below_drew1 | apply below_alloc | refine below_set ?_ (by simp))⟩
set_option maxHeartbeats 2000000 in
set_option maxRecDepth 100000 in
theorem fit_1c0 (a1 a2 a6 a7 a8 : Int) (w : World) (g6 : decide (1900 ≤ a6 ∧ a6 ≤ 2199) = true) (g7 : decide (a6 ≤ a7 ∧ a7 ≤ 2199) = true) (g8 : decide (0 ≤ a8 ∧ a8 ≤ 2) = true) (c0 : decide (1 ≤ a1 ∧ a1 ≤ 12) = false) : Calls Try.prog 85 #[.agg #[.int .i64 1, .int .i64 a1, .int .i64 a2, .int .i64 0, .int .i64 0, .int .i64 0, .int .i64 a6, .int .i64 a7, .int .i64 a8]] w (Fits false w) := by
 go_enter Try.func85, Try.ntmps85
 go_wp2_with (go_at_call 79; refine (in6_calls _ _ _ _ (by assumption) _).mono ?_; rintro e w' ⟨rfl, ⟨n0, rfl⟩⟩)
 go_quiet ((go_at_call 79; exact Calls.quiet_of ((in6_calls _ _ _ _ (by assumption) _).mono fun _ _ h => ⟨h.1, h.2.out⟩)))
 go_wp2_with fail
 go_ret
 exact ⟨rfl, by repeat (with_reducible first | exact Below.refl _ _ | apply pw_below_drewN | apply below_drew1 | apply below_alloc | refine below_set ?_ (by simp))⟩
set_option maxHeartbeats 2000000 in
set_option maxRecDepth 100000 in
theorem fit_1m1 (a2 a6 a7 a8 : Int) (w : World) (g6 : decide (1900 ≤ a6 ∧ a6 ≤ 2199) = true) (g7 : decide (a6 ≤ a7 ∧ a7 ≤ 2199) = true) (g8 : decide (0 ≤ a8 ∧ a8 ≤ 2) = true) (b : Bool) (c1 : decide (1 ≤ a2 ∧ a2 ≤ 31) = b) : Calls Try.prog 85 #[.agg #[.int .i64 1, .int .i64 1, .int .i64 a2, .int .i64 0, .int .i64 0, .int .i64 0, .int .i64 a6, .int .i64 a7, .int .i64 a8]] w (Fits b w) := by
 have c0 : decide ((1 : Int) ≤ 1 ∧ (1 : Int) ≤ 12) = true := by decide
 go_enter Try.func85, Try.ntmps85
 go_wp2_with (go_at_call 79; refine (in6_calls _ _ _ _ (by assumption) _).mono ?_; rintro e w' ⟨rfl, ⟨n0, rfl⟩⟩)
 go_quiet ((go_at_call 79; exact Calls.quiet_of ((in6_calls _ _ _ _ (by assumption) _).mono fun _ _ h => ⟨h.1, h.2.out⟩)))
 go_wp2_with fail
 go_ret
 exact ⟨rfl, by repeat (with_reducible first | exact Below.refl _ _ | apply pw_below_drewN | apply below_drew1 | apply below_alloc | refine below_set ?_ (by simp))⟩
set_option maxHeartbeats 2000000 in
set_option maxRecDepth 100000 in
theorem fit_1m2 (a2 a6 a7 a8 : Int) (w : World) (g6 : decide (1900 ≤ a6 ∧ a6 ≤ 2199) = true) (g7 : decide (a6 ≤ a7 ∧ a7 ≤ 2199) = true) (g8 : decide (0 ≤ a8 ∧ a8 ≤ 2) = true) (b : Bool) (c1 : decide (1 ≤ a2 ∧ a2 ≤ 29) = b) : Calls Try.prog 85 #[.agg #[.int .i64 1, .int .i64 2, .int .i64 a2, .int .i64 0, .int .i64 0, .int .i64 0, .int .i64 a6, .int .i64 a7, .int .i64 a8]] w (Fits b w) := by
 have c0 : decide ((1 : Int) ≤ 2 ∧ (2 : Int) ≤ 12) = true := by decide
 go_enter Try.func85, Try.ntmps85
 go_wp2_with (go_at_call 79; refine (in6_calls _ _ _ _ (by assumption) _).mono ?_; rintro e w' ⟨rfl, ⟨n0, rfl⟩⟩)
 go_quiet ((go_at_call 79; exact Calls.quiet_of ((in6_calls _ _ _ _ (by assumption) _).mono fun _ _ h => ⟨h.1, h.2.out⟩)))
 go_wp2_with fail
 go_ret
 exact ⟨rfl, by repeat (with_reducible first | exact Below.refl _ _ | apply pw_below_drewN | apply below_drew1 | apply below_alloc | refine below_set ?_ (by simp))⟩
set_option maxHeartbeats 2000000 in
set_option maxRecDepth 100000 in
theorem fit_1m3 (a2 a6 a7 a8 : Int) (w : World) (g6 : decide (1900 ≤ a6 ∧ a6 ≤ 2199) = true) (g7 : decide (a6 ≤ a7 ∧ a7 ≤ 2199) = true) (g8 : decide (0 ≤ a8 ∧ a8 ≤ 2) = true) (b : Bool) (c1 : decide (1 ≤ a2 ∧ a2 ≤ 31) = b) : Calls Try.prog 85 #[.agg #[.int .i64 1, .int .i64 3, .int .i64 a2, .int .i64 0, .int .i64 0, .int .i64 0, .int .i64 a6, .int .i64 a7, .int .i64 a8]] w (Fits b w) := by
 have c0 : decide ((1 : Int) ≤ 3 ∧ (3 : Int) ≤ 12) = true := by decide
 go_enter Try.func85, Try.ntmps85
 go_wp2_with (go_at_call 79; refine (in6_calls _ _ _ _ (by assumption) _).mono ?_; rintro e w' ⟨rfl, ⟨n0, rfl⟩⟩)
 go_quiet ((go_at_call 79; exact Calls.quiet_of ((in6_calls _ _ _ _ (by assumption) _).mono fun _ _ h => ⟨h.1, h.2.out⟩)))
 go_wp2_with fail
 go_ret
 exact ⟨rfl, by repeat (with_reducible first | exact Below.refl _ _ | apply pw_below_drewN | apply below_drew1 | apply below_alloc | refine below_set ?_ (by simp))⟩
set_option maxHeartbeats 2000000 in
set_option maxRecDepth 100000 in
theorem fit_1m4 (a2 a6 a7 a8 : Int) (w : World) (g6 : decide (1900 ≤ a6 ∧ a6 ≤ 2199) = true) (g7 : decide (a6 ≤ a7 ∧ a7 ≤ 2199) = true) (g8 : decide (0 ≤ a8 ∧ a8 ≤ 2) = true) (b : Bool) (c1 : decide (1 ≤ a2 ∧ a2 ≤ 30) = b) : Calls Try.prog 85 #[.agg #[.int .i64 1, .int .i64 4, .int .i64 a2, .int .i64 0, .int .i64 0, .int .i64 0, .int .i64 a6, .int .i64 a7, .int .i64 a8]] w (Fits b w) := by
 have c0 : decide ((1 : Int) ≤ 4 ∧ (4 : Int) ≤ 12) = true := by decide
 go_enter Try.func85, Try.ntmps85
 go_wp2_with (go_at_call 79; refine (in6_calls _ _ _ _ (by assumption) _).mono ?_; rintro e w' ⟨rfl, ⟨n0, rfl⟩⟩)
 go_quiet ((go_at_call 79; exact Calls.quiet_of ((in6_calls _ _ _ _ (by assumption) _).mono fun _ _ h => ⟨h.1, h.2.out⟩)))
 go_wp2_with fail
 go_ret
 exact ⟨rfl, by repeat (with_reducible first | exact Below.refl _ _ | apply pw_below_drewN | apply below_drew1 | apply below_alloc | refine below_set ?_ (by simp))⟩
set_option maxHeartbeats 2000000 in
set_option maxRecDepth 100000 in
theorem fit_1m5 (a2 a6 a7 a8 : Int) (w : World) (g6 : decide (1900 ≤ a6 ∧ a6 ≤ 2199) = true) (g7 : decide (a6 ≤ a7 ∧ a7 ≤ 2199) = true) (g8 : decide (0 ≤ a8 ∧ a8 ≤ 2) = true) (b : Bool) (c1 : decide (1 ≤ a2 ∧ a2 ≤ 31) = b) : Calls Try.prog 85 #[.agg #[.int .i64 1, .int .i64 5, .int .i64 a2, .int .i64 0, .int .i64 0, .int .i64 0, .int .i64 a6, .int .i64 a7, .int .i64 a8]] w (Fits b w) := by
 have c0 : decide ((1 : Int) ≤ 5 ∧ (5 : Int) ≤ 12) = true := by decide
 go_enter Try.func85, Try.ntmps85
 go_wp2_with (go_at_call 79; refine (in6_calls _ _ _ _ (by assumption) _).mono ?_; rintro e w' ⟨rfl, ⟨n0, rfl⟩⟩)
 go_quiet ((go_at_call 79; exact Calls.quiet_of ((in6_calls _ _ _ _ (by assumption) _).mono fun _ _ h => ⟨h.1, h.2.out⟩)))
 go_wp2_with fail
 go_ret
 exact ⟨rfl, by repeat (with_reducible first | exact Below.refl _ _ | apply pw_below_drewN | apply below_drew1 | apply below_alloc | refine below_set ?_ (by simp))⟩
set_option maxHeartbeats 2000000 in
set_option maxRecDepth 100000 in
theorem fit_1m6 (a2 a6 a7 a8 : Int) (w : World) (g6 : decide (1900 ≤ a6 ∧ a6 ≤ 2199) = true) (g7 : decide (a6 ≤ a7 ∧ a7 ≤ 2199) = true) (g8 : decide (0 ≤ a8 ∧ a8 ≤ 2) = true) (b : Bool) (c1 : decide (1 ≤ a2 ∧ a2 ≤ 30) = b) : Calls Try.prog 85 #[.agg #[.int .i64 1, .int .i64 6, .int .i64 a2, .int .i64 0, .int .i64 0, .int .i64 0, .int .i64 a6, .int .i64 a7, .int .i64 a8]] w (Fits b w) := by
 have c0 : decide ((1 : Int) ≤ 6 ∧ (6 : Int) ≤ 12) = true := by decide
 go_enter Try.func85, Try.ntmps85
 go_wp2_with (go_at_call 79; refine (in6_calls _ _ _ _ (by assumption) _).mono ?_; rintro e w' ⟨rfl, ⟨n0, rfl⟩⟩)
 go_quiet ((go_at_call 79; exact Calls.quiet_of ((in6_calls _ _ _ _ (by assumption) _).mono fun _ _ h => ⟨h.1, h.2.out⟩)))
 go_wp2_with fail
 go_ret
 exact ⟨rfl, by repeat (with_reducible first | exact Below.refl _ _ | apply pw_below_drewN | apply below_drew1 | apply below_alloc | refine below_set ?_ (by simp))⟩
set_option maxHeartbeats 2000000 in
set_option maxRecDepth 100000 in
theorem fit_1m7 (a2 a6 a7 a8 : Int) (w : World) (g6 : decide (1900 ≤ a6 ∧ a6 ≤ 2199) = true) (g7 : decide (a6 ≤ a7 ∧ a7 ≤ 2199) = true) (g8 : decide (0 ≤ a8 ∧ a8 ≤ 2) = true) (b : Bool) (c1 : decide (1 ≤ a2 ∧ a2 ≤ 31) = b) : Calls Try.prog 85 #[.agg #[.int .i64 1, .int .i64 7, .int .i64 a2, .int .i64 0, .int .i64 0, .int .i64 0, .int .i64 a6, .int .i64 a7, .int .i64 a8]] w (Fits b w) := by
 have c0 : decide ((1 : Int) ≤ 7 ∧ (7 : Int) ≤ 12) = true := by decide
 go_enter Try.func85, Try.ntmps85
 go_wp2_with (go_at_call 79; refine (in6_calls _ _ _ _ (by assumption) _).mono ?_; rintro e w' ⟨rfl, ⟨n0, rfl⟩⟩)
 go_quiet ((go_at_call 79; exact Calls.quiet_of ((in6_calls _ _ _ _ (by assumption) _).mono fun _ _ h => ⟨h.1, h.2.out⟩)))
 go_wp2_with fail
 go_ret
 exact ⟨rfl, by repeat (with_reducible first | exact Below.refl _ _ | apply pw_below_drewN | apply below_drew1 | apply below_alloc | refine below_set ?_ (by simp))⟩
set_option maxHeartbeats 2000000 in
set_option maxRecDepth 100000 in
theorem fit_1m8 (a2 a6 a7 a8 : Int) (w : World) (g6 : decide (1900 ≤ a6 ∧ a6 ≤ 2199) = true) (g7 : decide (a6 ≤ a7 ∧ a7 ≤ 2199) = true) (g8 : decide (0 ≤ a8 ∧ a8 ≤ 2) = true) (b : Bool) (c1 : decide (1 ≤ a2 ∧ a2 ≤ 31) = b) : Calls Try.prog 85 #[.agg #[.int .i64 1, .int .i64 8, .int .i64 a2, .int .i64 0, .int .i64 0, .int .i64 0, .int .i64 a6, .int .i64 a7, .int .i64 a8]] w (Fits b w) := by
 have c0 : decide ((1 : Int) ≤ 8 ∧ (8 : Int) ≤ 12) = true := by decide
 go_enter Try.func85, Try.ntmps85
 go_wp2_with (go_at_call 79; refine (in6_calls _ _ _ _ (by assumption) _).mono ?_; rintro e w' ⟨rfl, ⟨n0, rfl⟩⟩)
 go_quiet ((go_at_call 79; exact Calls.quiet_of ((in6_calls _ _ _ _ (by assumption) _).mono fun _ _ h => ⟨h.1, h.2.out⟩)))
 go_wp2_with fail
 go_ret
 exact ⟨rfl, by repeat (with_reducible first | exact Below.refl _ _ | apply pw_below_drewN | apply below_drew1 | apply below_alloc | refine below_set ?_ (by simp))⟩
set_option maxHeartbeats 2000000 in
set_option maxRecDepth 100000 in
theorem fit_1m9 (a2 a6 a7 a8 : Int) (w : World) (g6 : decide (1900 ≤ a6 ∧ a6 ≤ 2199) = true) (g7 : decide (a6 ≤ a7 ∧ a7 ≤ 2199) = true) (g8 : decide (0 ≤ a8 ∧ a8 ≤ 2) = true) (b : Bool) (c1 : decide (1 ≤ a2 ∧ a2 ≤ 30) = b) : Calls Try.prog 85 #[.agg #[.int .i64 1, .int .i64 9, .int .i64 a2, .int .i64 0, .int .i64 0, .int .i64 0, .int .i64 a6, .int .i64 a7, .int .i64 a8]] w (Fits b w) := by
 have c0 : decide ((1 : Int) ≤ 9 ∧ (9 : Int) ≤ 12) = true := by decide
 go_enter Try.func85, Try.ntmps85
 go_wp2_with (go_at_call 79; refine (in6_calls _ _ _ _ (by assumption) _).mono ?_; rintro e w' ⟨rfl, ⟨n0, rfl⟩⟩)
 go_quiet ((go_at_call 79; exact Calls.quiet_of ((in6_calls _ _ _ _ (by assumption) _).mono fun _ _ h => ⟨h.1, h.2.out⟩)))
 go_wp2_with fail
 go_ret
 exact ⟨rfl, by repeat (with_reducible first | exact Below.refl _ _ | apply pw_below_drewN | apply below_drew1 | apply below_alloc | refine below_set ?_ (by simp))⟩
set_option maxHeartbeats 2000000 in
set_option maxRecDepth 100000 in
theorem fit_1m10 (a2 a6 a7 a8 : Int) (w : World) (g6 : decide (1900 ≤ a6 ∧ a6 ≤ 2199) = true) (g7 : decide (a6 ≤ a7 ∧ a7 ≤ 2199) = true) (g8 : decide (0 ≤ a8 ∧ a8 ≤ 2) = true) (b : Bool) (c1 : decide (1 ≤ a2 ∧ a2 ≤ 31) = b) : Calls Try.prog 85 #[.agg #[.int .i64 1, .int .i64 10, .int .i64 a2, .int .i64 0, .int .i64 0, .int .i64 0, .int .i64 a6, .int .i64 a7, .int .i64 a8]] w (Fits b w) := by
 have c0 : decide ((1 : Int) ≤ 10 ∧ (10 : Int) ≤ 12) = true := by decide
 go_enter Try.func85, Try.ntmps85
 go_wp2_with (go_at_call 79; refine (in6_calls _ _ _ _ (by assumption) _).mono ?_; rintro e w' ⟨rfl, ⟨n0, rfl⟩⟩)
 go_quiet ((go_at_call 79; exact Calls.quiet_of ((in6_calls _ _ _ _ (by assumption) _).mono fun _ _ h => ⟨h.1, h.2.out⟩)))
 go_wp2_with fail
 go_ret
 exact ⟨rfl, by repeat (with_reducible first | exact Below.refl _ _ | apply pw_below_drewN | apply below_drew1 | apply below_alloc | refine below_set ?_ (by simp))⟩
set_option maxHeartbeats 2000000 in
set_option maxRecDepth 100000 in
theorem fit_1m11 (a2 a6 a7 a8 : Int) (w : World) (g6 : decide (1900 ≤ a6 ∧ a6 ≤ 2199) = true) (g7 : decide (a6 ≤ a7 ∧ a7 ≤ 2199) = true) (g8 : decide (0 ≤ a8 ∧ a8 ≤ 2) = true) (b : Bool) (c1 : decide (1 ≤ a2 ∧ a2 ≤ 30) = b) : Calls Try.prog 85 #[.agg #[.int .i64 1, .int .i64 11, .int .i64 a2, .int .i64 0, .int .i64 0, .int .i64 0, .int .i64 a6, .int .i64 a7, .int .i64 a8]] w (Fits b w) := by
 have c0 : decide ((1 : Int) ≤ 11 ∧ (11 : Int) ≤ 12) = true := by decide
 go_enter Try.func85, Try.ntmps85
 go_wp2_with (go_at_call 79; refine (in6_calls _ _ _ _ (by assumption) _).mono ?_; rintro e w' ⟨rfl, ⟨n0, rfl⟩⟩)
 go_quiet ((go_at_call 79; exact Calls.quiet_of ((in6_calls _ _ _ _ (by assumption) _).mono fun _ _ h => ⟨h.1, h.2.out⟩)))
 go_wp2_with fail
 go_ret
 exact ⟨rfl, by repeat (with_reducible first | exact Below.refl _ _ | apply pw_below_drewN | apply below_drew1 | apply below_alloc | refine below_set ?_ (by simp))⟩
set_option maxHeartbeats 2000000 in
set_option maxRecDepth 100000 in
theorem fit_1m12 (a2 a6 a7 a8 : Int) (w : World) (g6 : decide (1900 ≤ a6 ∧ a6 ≤ 2199) = true) (g7 : decide (a6 ≤ a7 ∧ a7 ≤ 2199) = true) (g8 : decide (0 ≤ a8 ∧ a8 ≤ 2) = true) (b : Bool) (c1 : decide (1 ≤ a2 ∧ a2 ≤ 31) = b) : Calls Try.prog 85 #[.agg #[.int .i64 1, .int .i64 12, .int .i64 a2, .int .i64 0, .int .i64 0, .int .i64 0, .int .i64 a6, .int .i64 a7, .int .i64 a8]] w (Fits b w) := by
 have c0 : decide ((1 : Int) ≤ 12 ∧ (12 : Int) ≤ 12) = true := by decide
 go_enter Try.func85, Try.ntmps85
 go_wp2_with (go_at_call 79; refine (in6_calls _ _ _ _ (by assumption) _).mono ?_; rintro e w' ⟨rfl, ⟨n0, rfl⟩⟩)
 go_quiet ((go_at_call 79; exact Calls.quiet_of ((in6_calls _ _ _ _ (by assumption) _).mono fun _ _ h => ⟨h.1, h.2.out⟩)))
 go_wp2_with fail
 go_ret
 exact ⟨rfl, by repeat (with_reducible first | exact Below.refl _ _ | apply pw_below_drewN | apply below_drew1 | apply below_alloc | refine below_set ?_ (by simp))⟩
theorem not_years {a0 a1 a2 a3 a4 a5 a6 a7 a8 : Int} (h4 : ¬ a0 = 4) (h : ¬ (1900 ≤ a6 ∧ a6 ≤ 2199 ∧ a6 ≤ a7 ∧ a7 ≤ 2199 ∧ 0 ≤ a8 ∧ a8 ≤ 2)) : M.may ⟨a0, a1, a2, a3, a4, a5, a6, a7, a8⟩ = false := by
 have hy : M.yearsOk ⟨a0, a1, a2, a3, a4, a5, a6, a7, a8⟩ = false := decide_eq_false h
 unfold M.may
 simp only [hy, Bool.and_false, h4, if_false]
 repeat' split
 all_goals rfl
theorem fit_calls (a0 a1 a2 a3 a4 a5 a6 a7 a8 : Int) (w : World) :
  Calls Try.prog 85 #[.agg #[.int .i64 a0, .int .i64 a1, .int .i64 a2, .int .i64 a3, .int .i64 a4, .int .i64 a5, .int .i64 a6, .int .i64 a7, .int .i64 a8]] w (Fits (M.may ⟨a0, a1, a2, a3, a4, a5, a6, a7, a8⟩) w) := by
 by_cases k4 : a0 = 4
 ·
  subst k4
  by_cases z1 : a1 = 0
  rotate_left
  ·
   rw [show M.may ⟨4, a1, a2, a3, a4, a5, a6, a7, a8⟩ = false by simp [M.may, z1]]; exact fit_4n0 _ _ _ _ _ _ _ _ w z1
  subst z1
  by_cases z3 : a3 = 0
  rotate_left
  ·
   rw [show M.may ⟨4, 0, a2, a3, a4, a5, a6, a7, a8⟩ = false by simp [M.may, z3]]; exact fit_4n1 _ _ _ _ _ _ _ w z3
  subst z3
  by_cases z4 : a4 = 0
  rotate_left
  ·
   rw [show M.may ⟨4, 0, a2, 0, a4, a5, a6, a7, a8⟩ = false by simp [M.may, z4]]; exact fit_4n2 _ _ _ _ _ _ w z4
  subst z4
  by_cases z5 : a5 = 0
  rotate_left
  ·
   rw [show M.may ⟨4, 0, a2, 0, 0, a5, a6, a7, a8⟩ = false by simp [M.may, z5]]; exact fit_4n3 _ _ _ _ _ w z5
  subst z5
  by_cases z6 : a6 = 0
  rotate_left
  ·
   rw [show M.may ⟨4, 0, a2, 0, 0, 0, a6, a7, a8⟩ = false by simp [M.may, z6]]; exact fit_4n4 _ _ _ _ w z6
  subst z6
  by_cases z7 : a7 = 0
  rotate_left
  ·
   rw [show M.may ⟨4, 0, a2, 0, 0, 0, 0, a7, a8⟩ = false by simp [M.may, z7]]; exact fit_4n5 _ _ _ w z7
  subst z7
  by_cases z8 : a8 = 0
  rotate_left
  ·
   rw [show M.may ⟨4, 0, a2, 0, 0, 0, 0, 0, a8⟩ = false by simp [M.may, z8]]; exact fit_4n6 _ _ w z8
  subst z8
  exact fit_4 _ _ _ _ _ _ _ _ w _ (by simp [M.may]) ⟨rfl, rfl, rfl, rfl, rfl, rfl, rfl⟩
 by_cases hy : 1900 ≤ a6 ∧ a6 ≤ 2199 ∧ a6 ≤ a7 ∧ a7 ≤ 2199 ∧ 0 ≤ a8 ∧ a8 ≤ 2
 rotate_left
 ·
  rw [not_years k4 hy]; exact fit_y _ _ _ _ _ _ _ _ _ w k4 hy
 have hyo : decide (1900 ≤ a6 ∧ a6 ≤ 2199 ∧ a6 ≤ a7 ∧ a7 ≤ 2199 ∧ 0 ≤ a8 ∧ a8 ≤ 2) = true := decide_eq_true hy
 have g6 := decide_eq_true (show 1900 ≤ a6 ∧ a6 ≤ 2199 from ⟨hy.1, hy.2.1⟩)
 have g7 := decide_eq_true (show a6 ≤ a7 ∧ a7 ≤ 2199 from ⟨hy.2.2.1, hy.2.2.2.1⟩)
 have g8 := decide_eq_true (show 0 ≤ a8 ∧ a8 ≤ 2 from hy.2.2.2.2)
 by_cases k1 : a0 = 1
 ·
  subst k1
  by_cases z3 : a3 = 0
  rotate_left
  ·
   rw [show M.may ⟨1, a1, a2, a3, a4, a5, a6, a7, a8⟩ = false by simp [M.may, z3]]; exact fit_1n0 _ _ _ _ _ _ _ _ w g6 g7 g8 z3
  subst z3
  by_cases z4 : a4 = 0
  rotate_left
  ·
   rw [show M.may ⟨1, a1, a2, 0, a4, a5, a6, a7, a8⟩ = false by simp [M.may, z4]]; exact fit_1n1 _ _ _ _ _ _ _ w g6 g7 g8 z4
  subst z4
  by_cases z5 : a5 = 0
  rotate_left
  ·
   rw [show M.may ⟨1, a1, a2, 0, 0, a5, a6, a7, a8⟩ = false by simp [M.may, z5]]; exact fit_1n2 _ _ _ _ _ _ w g6 g7 g8 z5
  subst z5
  by_cases hm : 1 ≤ a1 ∧ a1 ≤ 12
  rotate_left
  ·
   rw [show M.may ⟨1, a1, a2, 0, 0, 0, a6, a7, a8⟩ = false by unfold M.may; rw [if_pos rfl]; rw [Bool.and_eq_false_iff]; left; rw [decide_eq_false_iff_not]; simp only; omega]
   exact fit_1c0 _ _ _ _ _ w g6 g7 g8 (decide_eq_false hm)
  have hv : ∀ {p : Prop} [Decidable p], p → M.may ⟨1, a1, a2, 0, 0, 0, a6, a7, a8⟩ = decide (1 ≤ a2 ∧ a2 ≤ M.mlen 2000 a1) := by
   intro p _ _
   show (decide (1 ≤ a1 ∧ a1 ≤ 12 ∧ (0 : Int) = 0 ∧ (0 : Int) = 0 ∧ (0 : Int) = 0 ∧ 1 ≤ a2 ∧ a2 ≤ M.mlen 2000 a1) && decide (1900 ≤ a6 ∧ a6 ≤ 2199 ∧ a6 ≤ a7 ∧ a7 ≤ 2199 ∧ 0 ≤ a8 ∧ a8 ≤ 2)) = _
   rw [hyo, Bool.and_true, decide_eq_decide]
   exact ⟨fun h => ⟨h.2.2.2.2.2.1, h.2.2.2.2.2.2⟩, fun h => ⟨hm.1, hm.2, rfl, rfl, rfl, h.1, h.2⟩⟩
  rw [hv trivial]
  have h12 : a1 = 1 ∨ a1 = 2 ∨ a1 = 3 ∨ a1 = 4 ∨ a1 = 5 ∨ a1 = 6 ∨ a1 = 7 ∨ a1 = 8 ∨ a1 = 9 ∨ a1 = 10 ∨ a1 = 11 ∨ a1 = 12 := by omega
  rcases h12 with rfl | rfl | rfl | rfl | rfl | rfl | rfl | rfl | rfl | rfl | rfl | rfl
  ·
   exact fit_1m1 _ _ _ _ w g6 g7 g8 _ rfl
  ·
   exact fit_1m2 _ _ _ _ w g6 g7 g8 _ rfl
  ·
   exact fit_1m3 _ _ _ _ w g6 g7 g8 _ rfl
  ·
   exact fit_1m4 _ _ _ _ w g6 g7 g8 _ rfl
  ·
   exact fit_1m5 _ _ _ _ w g6 g7 g8 _ rfl
  ·
   exact fit_1m6 _ _ _ _ w g6 g7 g8 _ rfl
  ·
   exact fit_1m7 _ _ _ _ w g6 g7 g8 _ rfl
  ·
   exact fit_1m8 _ _ _ _ w g6 g7 g8 _ rfl
  ·
   exact fit_1m9 _ _ _ _ w g6 g7 g8 _ rfl
  ·
   exact fit_1m10 _ _ _ _ w g6 g7 g8 _ rfl
  ·
   exact fit_1m11 _ _ _ _ w g6 g7 g8 _ rfl
  ·
   exact fit_1m12 _ _ _ _ w g6 g7 g8 _ rfl
 by_cases k2 : a0 = 2
 ·
  subst k2
  have no : ∀ {q : Prop} [Decidable q], ¬ q → (decide q && M.yearsOk ⟨2, a1, a2, a3, a4, a5, a6, a7, a8⟩) = false := by intro q _ h; simp [h]
  have hv : M.may ⟨2, a1, a2, a3, a4, a5, a6, a7, a8⟩ = (decide (a2 = 0 ∧ a5 = 0 ∧ 1 ≤ a1 ∧ a1 ≤ 12 ∧ 0 ≤ a4 ∧ a4 ≤ 6 ∧ 1 ≤ a3 ∧ a3 ≤ 5) && M.yearsOk ⟨2, a1, a2, a3, a4, a5, a6, a7, a8⟩) := rfl
  rw [hv]
  by_cases z2 : a2 = 0
  rotate_left
  ·
   rw [no (by omega)]; exact fit_2n0 _ _ _ _ _ _ _ _ w g6 g7 g8 z2
  subst z2
  by_cases z5 : a5 = 0
  rotate_left
  ·
   rw [no (by omega)]; exact fit_2n1 _ _ _ _ _ _ _ w g6 g7 g8 z5
  subst z5
  by_cases c1 : 1 ≤ a1 ∧ a1 ≤ 12
  rotate_left
  ·
   rw [no (by omega)]; exact fit_2c0 _ _ _ _ _ _ w g6 g7 g8 (decide_eq_false c1)
  by_cases c4 : 0 ≤ a4 ∧ a4 ≤ 6
  rotate_left
  ·
   rw [no (by omega)]; exact fit_2c1 _ _ _ _ _ _ w g6 g7 g8 (decide_eq_true c1) (decide_eq_false c4)
  by_cases c3 : 1 ≤ a3 ∧ a3 ≤ 5
  rotate_left
  ·
   rw [no (by omega)]; exact fit_2c2 _ _ _ _ _ _ w g6 g7 g8 (decide_eq_true c1) (decide_eq_true c4) (decide_eq_false c3)
  rw [show (decide ((0 : Int) = 0 ∧ (0 : Int) = 0 ∧ 1 ≤ a1 ∧ a1 ≤ 12 ∧ 0 ≤ a4 ∧ a4 ≤ 6 ∧ 1 ≤ a3 ∧ a3 ≤ 5) && M.yearsOk ⟨2, a1, 0, a3, a4, 0, a6, a7, a8⟩) = true by rw [Bool.and_eq_true]; exact ⟨decide_eq_true (by omega), hyo⟩]
  exact fit_2c3 _ _ _ _ _ _ w g6 g7 g8 (decide_eq_true c1) (decide_eq_true c4) (decide_eq_true c3)
 by_cases k3 : a0 = 3
 ·
  subst k3
  have no : ∀ {q : Prop} [Decidable q], ¬ q → (decide q && M.yearsOk ⟨3, a1, a2, a3, a4, a5, a6, a7, a8⟩) = false := by intro q _ h; simp [h]
  have hv : M.may ⟨3, a1, a2, a3, a4, a5, a6, a7, a8⟩ = (decide (a1 = 0 ∧ a2 = 0 ∧ a3 = 0 ∧ a4 = 0 ∧ -100 ≤ a5 ∧ a5 ≤ 100) && M.yearsOk ⟨3, a1, a2, a3, a4, a5, a6, a7, a8⟩) := rfl
  rw [hv]
  by_cases z1 : a1 = 0
  rotate_left
  ·
   rw [no (by omega)]; exact fit_3n0 _ _ _ _ _ _ _ _ w g6 g7 g8 z1
  subst z1
  by_cases z2 : a2 = 0
  rotate_left
  ·
   rw [no (by omega)]; exact fit_3n1 _ _ _ _ _ _ _ w g6 g7 g8 z2
  subst z2
  by_cases z3 : a3 = 0
  rotate_left
  ·
   rw [no (by omega)]; exact fit_3n2 _ _ _ _ _ _ w g6 g7 g8 z3
  subst z3
  by_cases z4 : a4 = 0
  rotate_left
  ·
   rw [no (by omega)]; exact fit_3n3 _ _ _ _ _ w g6 g7 g8 z4
  subst z4
  by_cases c5 : -100 ≤ a5 ∧ a5 ≤ 100
  rotate_left
  ·
   rw [no (by omega)]; exact fit_3c0 _ _ _ _ w g6 g7 g8 (decide_eq_false c5)
  rw [show (decide ((0 : Int) = 0 ∧ (0 : Int) = 0 ∧ (0 : Int) = 0 ∧ (0 : Int) = 0 ∧ -100 ≤ a5 ∧ a5 ≤ 100) && M.yearsOk ⟨3, 0, 0, 0, 0, a5, a6, a7, a8⟩) = true by rw [Bool.and_eq_true]; exact ⟨decide_eq_true (by omega), hyo⟩]
  exact fit_3c1 _ _ _ _ w g6 g7 g8 (decide_eq_true c5)
 rw [show M.may ⟨a0, a1, a2, a3, a4, a5, a6, a7, a8⟩ = false by unfold M.may; simp only; rw [if_neg k1, if_neg k2, if_neg k3, if_neg k4]]
 exact fit_0 _ _ _ _ _ _ _ _ _ w g6 g7 g8 k1 k2 k3 k4
end Go.Proofs.Ytoncignjcgjhhaa.H
namespace Go.Proofs.Ytoncignjcgjhhaa.Q
open Go.RowKit Go.Proofs.YtoncignjcgjhhaaW.PrintWords Go.Proofs.YtoncignjcgjhhaaW.PrintLast Go.Proofs.YtoncignjcgjhhaaW.PrintMore
attribute [local go_sem] max2_int min2_int max_two min_two max_three min_three max_four min_four   -- for this text's walks alone
def tenorref6_fit.f (a0_0 : Int) (a0_1 : Int) (a0_2 : Int) (a0_3 : Int) (a0_4 : Int) (a0_5 : Int) (a0_6 : Int) (a0_7 : Int) (a0_8 : Int) : Option (Bool) := some (Go.Proofs.Ytoncignjcgjhhaa.M.may ⟨a0_0, a0_1, a0_2, a0_3, a0_4, a0_5, a0_6, a0_7, a0_8⟩)
theorem tenorref6_fit.calls (a0_0 : Int) (a0_1 : Int) (a0_2 : Int) (a0_3 : Int) (a0_4 : Int) (a0_5 : Int) (a0_6 : Int) (a0_7 : Int) (a0_8 : Int) (r : Bool) (w : World) (h : tenorref6_fit.f a0_0 a0_1 a0_2 a0_3 a0_4 a0_5 a0_6 a0_7 a0_8 = some r) :
  Calls Try.prog 85 #[.agg #[.int .i64 a0_0, .int .i64 a0_1, .int .i64 a0_2, .int .i64 a0_3, .int .i64 a0_4, .int .i64 a0_5, .int .i64 a0_6, .int .i64 a0_7, .int .i64 a0_8]] w fun e w' => e = .returned (.bool r) ∧ Below w.heap.size w w' := by
 have e := Option.some.inj h;have c := Go.Proofs.Ytoncignjcgjhhaa.H.fit_calls a0_0 a0_1 a0_2 a0_3 a0_4 a0_5 a0_6 a0_7 a0_8 w
 rw [e] at c
 exact c
end Go.Proofs.Ytoncignjcgjhhaa.Q
namespace Go.Proofs.Ytoncignjcgjhhaa.Q
open Go.RowKit Go.Proofs.YtoncignjcgjhhaaW.PrintWords Go.Proofs.YtoncignjcgjhhaaW.PrintLast Go.Proofs.YtoncignjcgjhhaaW.PrintMore
attribute [local go_sem] max2_int min2_int max_two min_two max_three min_three max_four min_four   -- for this text's walks alone
def tenorref6_Check.l0 : Nat → Int → Int → List (S63) → Option (Int × Int)
  | 0, _, _, _ => none
  | k + 1, x4, x186000, x186001 => if x4 < (x186001.length : Int) then (if 0 ≤ x4 then ((tenorref6_fit.f ((rd_T63 x186001 x4).f0) ((rd_T63 x186001 x4).f1) ((rd_T63 x186001 x4).f2) ((rd_T63 x186001 x4).f3) ((rd_T63 x186001 x4).f4) ((rd_T63 x186001 x4).f5) ((rd_T63 x186001 x4).f6) ((rd_T63 x186001 x4).f7) ((rd_T63 x186001 x4).f8)).bind fun t188 => (if t188 = true then (tenorref6_Check.l0 k (wrap64 (x4 + 1)) x186000 x186001) else (some (60, x4)))) else (none)) else (some (0, 0))
def tenorref6_Check.f (k : Nat) (a0_0 : Int) (l0_1 : List (S63)) : Option (Int × Int) := if (l0_1.length : Int) > 64 then (some (2, 0)) else ((tenorref6_in.f a0_0 0 126).bind fun t186 => (if t186 = true then (tenorref6_Check.l0 k 0 a0_0 l0_1) else (some (60, (-1)))))
theorem tenorref6_Check.mono_l : ∀ k, (∀ y0 y1 y2, LeO (tenorref6_Check.l0 k y0 y1 y2) (tenorref6_Check.l0 (k + 1) y0 y1 y2))
 | 0 => fun _ _ _ r h => by simp [tenorref6_Check.l0] at h
 | k + 1 => by
  have ih0 := tenorref6_Check.mono_l k
  ·
   intro y0 y1 y2
   unfold tenorref6_Check.l0
   repeat' first
   | (with_reducible exact ih0 _ _ _)
   | (with_reducible exact LeO.refl _)
   | (with_reducible exact LeO.none _)
   | (with_reducible refine LeO.ite ?_ ?_)
   | (with_reducible refine LeO.bind ?_ (fun _ => ?_))
   | exact ih0 _ _ _
   | exact LeO.none _
   | refine LeO.ite ?_ ?_
   | refine LeO.bind ?_ (fun _ => ?_)
theorem tenorref6_Check.mono : ∀ a0 a1 k, LeO (tenorref6_Check.f k a0 a1) (tenorref6_Check.f (k + 1) a0 a1) := by
 intro a0 a1 k
 have ih0 := tenorref6_Check.mono_l k
 unfold tenorref6_Check.f
 repeat' first
   | (with_reducible exact ih0 _ _ _)
   | (with_reducible exact LeO.refl _)
   | (with_reducible exact LeO.none _)
   | (with_reducible refine LeO.ite ?_ ?_)
   | (with_reducible refine LeO.bind ?_ (fun _ => ?_))
   | exact ih0 _ _ _
   | exact LeO.none _
   | refine LeO.ite ?_ ?_
   | refine LeO.bind ?_ (fun _ => ?_)
set_option maxHeartbeats 8000000 in
set_option maxRecDepth 100000 in
theorem tenorref6_Check.calls (k : Nat) (a0_0 : Int) (A0_1 : Option Addr) (c0_1 : Nat) (l0_1 : List (S63)) (r1 : Int) (r2 : Int) (w : World) (hr0_1 : Kd.C k63 w A0_1 l0_1.length l0_1) (hc0_1 : l0_1.length ≤ c0_1) (h : tenorref6_Check.f k a0_0 l0_1 = some (r1, r2)) :
  Calls Try.prog 45 #[.agg #[.int .i64 a0_0, .slice A0_1 l0_1.length c0_1]] w fun e w' => e = .returned (.tuple #[.int .i64 r1, .int .i64 r2]) ∧ Below w.heap.size w w' := by
 have hu24 := Try.underlying24;have hu63 := Try.underlying63;have HR0_1 := Aside0.mk hr0_1;have HC0_1 := Aside0.mk hc0_1;clear hr0_1 hc0_1
 have HB := Aside0.mk (Below.refl w.heap.size w)
 have H : (if (l0_1.length : Int) > 64 then (some (2, 0)) else ((tenorref6_in.f a0_0 0 126).bind fun t186 => (if t186 = true then (tenorref6_Check.l0 k 0 a0_0 l0_1) else (some (60, (-1)))))) = some (r1, r2) := h
 clear h
 by_cases c2 : (l0_1.length : Int) > 64
 ·
  rw [if_pos c2] at H
  have c2b0 : decide (64 < (l0_1.length : Int)) = true := decide_eq_true c2
  have c2b1 : decide (64 < l0_1.length) = true := decide_eq_true (by omega)
  clear c2
  simp only [Option.some.injEq, Prod.mk.injEq] at H
  obtain ⟨rfl, rfl⟩ := H
  go_enter Try.func45, Try.ntmps45
  go_wp2_with (first | ((with_reducible refine gate_dst (N := 1) rfl ?_); refine box_event ?hg (N := 1) ?hd (cs := #[.int .i64 a0_0, .slice A0_1 l0_1.length c0_1]) (t := 24) ?hr ?_; (case hd => rfl); (case hg => rfl); (case hr => first | (go_simp; done) | (go_simp; rfl)); intro gb185 hg w3 hbox hb; have n0_ := Aside0.mk (below_step (by repeat (first | (with_reducible first | exact HB.out | apply below_alloc | apply pw_below_drewN | apply below_drew1) | exact HB.out)) hb); have n1_ := Aside0.mk (hbox); have n2_ := Aside0.mk ((by rw [hg]; exact (below_size (by repeat (first | (with_reducible first | exact HB.out | apply below_alloc | apply pw_below_drewN | apply below_drew1) | exact HB.out))) : w.heap.size ≤ gb185)); have n3_ := Aside0.mk ((by rw [hg]; exact (below_size (by repeat (first | (with_reducible first | exact HB.out | apply below_alloc | apply pw_below_drewN | apply below_drew1) | exact HB.out))) : w.heap.size ≤ gb185)); clear HB; have HB := n0_; have BK185 := n1_; have GW185 := n2_; have GE185 := n3_; clear n0_ n1_ n2_ n3_; clear hb hbox hg; have hcz4_0 : w3.cell? ⟨gb185, 0, none⟩ = some (.int .i64 a0_0) := (blk_cell BK185.out 0).trans rfl; have hcz4_1 : w3.cell? ⟨gb185, 1, none⟩ = some (.slice A0_1 l0_1.length c0_1) := (blk_cell BK185.out 1).trans rfl; have hfz4_0 := blk_frozen BK185.out 0; have hfz4_1 := blk_frozen BK185.out 1))
  go_ret2
  exact ⟨by first | rfl | (simp [errW_none, errW_some] <;> rfl) | (simp [*, errW_none, errW_some] <;> rfl), by repeat (first | (with_reducible first | exact HB.out | apply below_alloc | apply pw_below_drewN | apply below_drew1 | refine below_set ?_ GE185.out) | exact HB.out)⟩
 ·
  rw [if_neg c2] at H
  have c2b0 : decide (64 < (l0_1.length : Int)) = false := decide_eq_false c2
  have c2b1 : decide (64 < l0_1.length) = false := decide_eq_false (by omega)
  clear c2;replace H := Option.bind_eq_some_iff.mp H
  obtain ⟨t186, A50, H⟩ := H
  replace H : (if t186 = true then (tenorref6_Check.l0 k 0 a0_0 l0_1) else (some (60, (-1)))) = some (r1, r2) := H
  have A5 := Aside0.mk A50;clear A50
  by_cases c6 : t186 = true
  ·
   subst c6
   have H1 : (tenorref6_Check.l0 k 0 a0_0 l0_1) = some (r1, r2) := by rw [if_pos rfl] at H; exact H
   clear H;have H := H1;clear H1;have H' := Aside0.mk H;clear H
   go_enter Try.func45, Try.ntmps45
   go_wp2_with (first | ((with_reducible refine gate_dst (N := 1) rfl ?_); refine box_event ?hg (N := 1) ?hd (cs := #[.int .i64 a0_0, .slice A0_1 l0_1.length c0_1]) (t := 24) ?hr ?_; (case hd => rfl); (case hg => rfl); (case hr => first | (go_simp; done) | (go_simp; rfl)); intro gb185 hg w7 hbox hb; have n0_ := Aside0.mk (below_step (by repeat (first | (with_reducible first | exact HB.out | apply below_alloc | apply pw_below_drewN | apply below_drew1) | exact HB.out)) hb); have n1_ := Aside0.mk (hbox); have n2_ := Aside0.mk ((by rw [hg]; exact (below_size (by repeat (first | (with_reducible first | exact HB.out | apply below_alloc | apply pw_below_drewN | apply below_drew1) | exact HB.out))) : w.heap.size ≤ gb185)); have n3_ := Aside0.mk ((by rw [hg]; exact (below_size (by repeat (first | (with_reducible first | exact HB.out | apply below_alloc | apply pw_below_drewN | apply below_drew1) | exact HB.out))) : w.heap.size ≤ gb185)); clear HB; have HB := n0_; have BK185 := n1_; have GW185 := n2_; have GE185 := n3_; clear n0_ n1_ n2_ n3_; clear hb hbox hg; have hcz8_0 : w7.cell? ⟨gb185, 0, none⟩ = some (.int .i64 a0_0) := (blk_cell BK185.out 0).trans rfl; have hcz8_1 : w7.cell? ⟨gb185, 1, none⟩ = some (.slice A0_1 l0_1.length c0_1) := (blk_cell BK185.out 1).trans rfl; have hfz8_0 := blk_frozen BK185.out 0; have hfz8_1 := blk_frozen BK185.out 1) | ((with_reducible refine gate_callee (f := 79) rfl ?_); refine goesL_ (some 11) rfl rfl Try.func79 (by kernel_rfl) rfl #[.int .i64 a0_0, .int .i64 0, .int .i64 126] rfl (by (try simp only [List.map_toArray, List.map_cons, List.map_nil]); first | done | rfl | (simp only [List.length_drop, List.length_take]; rfl)) ?_; (with_reducible refine (tenorref6_in.calls a0_0 0 126 true _ A5.out).mono ?_); rintro e w' ⟨rfl, ⟨nd, rfl⟩⟩; refine ⟨_, rfl, ?_⟩))
   go_loopg [4] k (fun kq v4 w' => ∃ (x4_1 : Int), v4 = .int .i64 x4_1 ∧ Aside0 (tenorref6_Check.l0 kq x4_1 a0_0 l0_1 = some (r1, r2)) ∧ Aside0 (kq ≤ k) ∧ Aside0 (w'.heap[gb185]? = some (.cells #[.int .i64 a0_0, (.slice A0_1 l0_1.length c0_1)] 24 (0, 0))) ∧ Aside0 (Below w.heap.size w w'))
   case atStart => exact ⟨(0), (by first | rfl | (simp; done) | (simp [*]; done)), H', ⟨Nat.le_refl _⟩, ⟨by (with_reducible repeat (first | refine blk_drewN ?_ _ | refine blk_drew ?_ | refine blk_alloc ?_ _)); exact BK185.out⟩, ⟨by repeat (first | (with_reducible first | exact HB.out | apply below_alloc | apply pw_below_drewN | apply below_drew1 | refine below_set ?_ GE185.out) | exact HB.out)⟩⟩
   case round =>
    clear H'
    obtain ⟨x4_1, rfl, HA, HK1, BK185, HB⟩ := hrel
    cases gk with
    | zero => exact absurd HA.out (by simp [tenorref6_Check.l0])
    | succ k1 =>
     have H := HA.out;clear HA
     simp only [tenorref6_Check.l0] at H
     by_cases c9 : x4_1 < (l0_1.length : Int)
     ·
      rw [if_pos c9] at H
      have c9b0 : decide (x4_1 < (l0_1.length : Int)) = true := decide_eq_true c9
      clear c9
      by_cases c10 : 0 ≤ x4_1
      ·
       rw [if_pos c10] at H
       have c10b0 : decide (0 ≤ x4_1) = true := decide_eq_true c10
       clear c10;replace H := Option.bind_eq_some_iff.mp H
       obtain ⟨t188, A110, H⟩ := H
       replace H : (if t188 = true then (tenorref6_Check.l0 k1 (wrap64 (x4_1 + 1)) a0_0 l0_1) else (some (60, x4_1))) = some (r1, r2) := H
       have A11 := Aside0.mk A110;clear A110
       by_cases c12 : t188 = true
       ·
        subst c12
        have H1 : (tenorref6_Check.l0 k1 (wrap64 (x4_1 + 1)) a0_0 l0_1) = some (r1, r2) := by rw [if_pos rfl] at H; exact H
        clear H;have H := H1;clear H1;have H' := Aside0.mk H;clear H
        have hcz13_0 : wr.cell? ⟨gb185, 0, none⟩ = some (.int .i64 a0_0) := (blk_cell BK185.out 0).trans rfl
        have hcz13_1 : wr.cell? ⟨gb185, 1, none⟩ = some (.slice A0_1 l0_1.length c0_1) := (blk_cell BK185.out 1).trans rfl
        have hfz13_0 := blk_frozen BK185.out 0;have hfz13_1 := blk_frozen BK185.out 1
        have p187 : 0 ≤ (x4_1 : Int) := of_decide_eq_true (by first | (with_reducible assumption) | assumption)
        have q187 : x4_1 < (l0_1.length : Int) := of_decide_eq_true (by first | (with_reducible assumption) | assumption)
        obtain ⟨ad187, e187, hx187_0, hx187_1, hx187_2, hx187_3, hx187_4, hx187_5, hx187_6, hx187_7, hx187_8⟩ := at_T63 HR0_1.out x4_1 p187 q187
        cases e187
        replace hx187_0 := (HB.out.cell (World.block_lt_of_cell? w _ hx187_0)).trans hx187_0
        replace hx187_1 := (HB.out.cell (World.block_lt_of_cell? w _ hx187_1)).trans hx187_1
        replace hx187_2 := (HB.out.cell (World.block_lt_of_cell? w _ hx187_2)).trans hx187_2
        replace hx187_3 := (HB.out.cell (World.block_lt_of_cell? w _ hx187_3)).trans hx187_3
        replace hx187_4 := (HB.out.cell (World.block_lt_of_cell? w _ hx187_4)).trans hx187_4
        replace hx187_5 := (HB.out.cell (World.block_lt_of_cell? w _ hx187_5)).trans hx187_5
        replace hx187_6 := (HB.out.cell (World.block_lt_of_cell? w _ hx187_6)).trans hx187_6
        replace hx187_7 := (HB.out.cell (World.block_lt_of_cell? w _ hx187_7)).trans hx187_7
        replace hx187_8 := (HB.out.cell (World.block_lt_of_cell? w _ hx187_8)).trans hx187_8
        replace p187 := eq_true p187;replace q187 := eq_true q187
        go_wp2_with (first | ((with_reducible refine gate_callee (f := 85) rfl ?_); refine goesL_ (some 25) rfl rfl Try.func85 (by kernel_rfl) rfl #[.agg #[.int .i64 ((rd_T63 l0_1 x4_1).f0), .int .i64 ((rd_T63 l0_1 x4_1).f1), .int .i64 ((rd_T63 l0_1 x4_1).f2), .int .i64 ((rd_T63 l0_1 x4_1).f3), .int .i64 ((rd_T63 l0_1 x4_1).f4), .int .i64 ((rd_T63 l0_1 x4_1).f5), .int .i64 ((rd_T63 l0_1 x4_1).f6), .int .i64 ((rd_T63 l0_1 x4_1).f7), .int .i64 ((rd_T63 l0_1 x4_1).f8)]] rfl (by (try simp only [List.map_toArray, List.map_cons, List.map_nil]); first | done | rfl | (simp only [List.length_drop, List.length_take]; rfl)) ?_; (with_reducible refine (tenorref6_fit.calls ((rd_T63 l0_1 x4_1).f0) ((rd_T63 l0_1 x4_1).f1) ((rd_T63 l0_1 x4_1).f2) ((rd_T63 l0_1 x4_1).f3) ((rd_T63 l0_1 x4_1).f4) ((rd_T63 l0_1 x4_1).f5) ((rd_T63 l0_1 x4_1).f6) ((rd_T63 l0_1 x4_1).f7) ((rd_T63 l0_1 x4_1).f8) true _ A11.out).mono ?_); rintro e w14 ⟨rfl, hb⟩; refine ⟨_, rfl, ?_⟩; have n0_ := Aside0.mk (blk_below (g := gb185) (o := .cells #[.int .i64 a0_0, .slice (some ad187) l0_1.length c0_1] 24 (0, 0)) (by (with_reducible repeat (first | refine blk_drewN ?_ _ | refine blk_drew ?_ | refine blk_alloc ?_ _)); exact BK185.out) hb); have n1_ := Aside0.mk (below_step (by repeat (first | (with_reducible first | exact HB.out | apply below_alloc | apply pw_below_drewN | apply below_drew1 | refine below_set ?_ GE185.out) | exact HB.out)) hb); clear BK185; clear HB; have BK185 := n0_; have HB := n1_; clear n0_ n1_; (try clear hb); (try clear hb2); (try clear hk); (try clear hi)))
        go_roundg k1
        case measure => have := HK1.out; omega
        case rel => exact ⟨(wrap64 (x4_1 + 1)), (by first | rfl | (simp; done) | (simp [*]; done)), H', ⟨by have := HK1.out; omega⟩, ⟨by (with_reducible repeat (first | refine blk_drewN ?_ _ | refine blk_drew ?_ | refine blk_alloc ?_ _)); exact BK185.out⟩, ⟨by repeat (first | (with_reducible first | exact HB.out | apply below_alloc | apply pw_below_drewN | apply below_drew1 | refine below_set ?_ GE185.out) | exact HB.out)⟩⟩
       ·
        replace c12 := Bool.eq_false_iff.mpr c12;subst c12
        have H1 : (some (60, x4_1)) = some (r1, r2) := by rw [if_neg (show ¬ (false = true) by decide)] at H; exact H
        clear H;have H := H1;clear H1
        simp only [Option.some.injEq, Prod.mk.injEq] at H
        obtain ⟨rfl, rfl⟩ := H
        have hcz15_0 : wr.cell? ⟨gb185, 0, none⟩ = some (.int .i64 a0_0) := (blk_cell BK185.out 0).trans rfl
        have hcz15_1 : wr.cell? ⟨gb185, 1, none⟩ = some (.slice A0_1 l0_1.length c0_1) := (blk_cell BK185.out 1).trans rfl
        have hfz15_0 := blk_frozen BK185.out 0;have hfz15_1 := blk_frozen BK185.out 1
        have p187 : 0 ≤ (x4_1 : Int) := of_decide_eq_true (by first | (with_reducible assumption) | assumption)
        have q187 : x4_1 < (l0_1.length : Int) := of_decide_eq_true (by first | (with_reducible assumption) | assumption)
        obtain ⟨ad187, e187, hx187_0, hx187_1, hx187_2, hx187_3, hx187_4, hx187_5, hx187_6, hx187_7, hx187_8⟩ := at_T63 HR0_1.out x4_1 p187 q187
        cases e187
        replace hx187_0 := (HB.out.cell (World.block_lt_of_cell? w _ hx187_0)).trans hx187_0
        replace hx187_1 := (HB.out.cell (World.block_lt_of_cell? w _ hx187_1)).trans hx187_1
        replace hx187_2 := (HB.out.cell (World.block_lt_of_cell? w _ hx187_2)).trans hx187_2
        replace hx187_3 := (HB.out.cell (World.block_lt_of_cell? w _ hx187_3)).trans hx187_3
        replace hx187_4 := (HB.out.cell (World.block_lt_of_cell? w _ hx187_4)).trans hx187_4
        replace hx187_5 := (HB.out.cell (World.block_lt_of_cell? w _ hx187_5)).trans hx187_5
        replace hx187_6 := (HB.out.cell (World.block_lt_of_cell? w _ hx187_6)).trans hx187_6
        replace hx187_7 := (HB.out.cell (World.block_lt_of_cell? w _ hx187_7)).trans hx187_7
        replace hx187_8 := (HB.out.cell (World.block_lt_of_cell? w _ hx187_8)).trans hx187_8
        replace p187 := eq_true p187;replace q187 := eq_true q187
        go_wp2_with (first | ((with_reducible refine gate_callee (f := 85) rfl ?_); refine goesL_ (some 25) rfl rfl Try.func85 (by kernel_rfl) rfl #[.agg #[.int .i64 ((rd_T63 l0_1 x4_1).f0), .int .i64 ((rd_T63 l0_1 x4_1).f1), .int .i64 ((rd_T63 l0_1 x4_1).f2), .int .i64 ((rd_T63 l0_1 x4_1).f3), .int .i64 ((rd_T63 l0_1 x4_1).f4), .int .i64 ((rd_T63 l0_1 x4_1).f5), .int .i64 ((rd_T63 l0_1 x4_1).f6), .int .i64 ((rd_T63 l0_1 x4_1).f7), .int .i64 ((rd_T63 l0_1 x4_1).f8)]] rfl (by (try simp only [List.map_toArray, List.map_cons, List.map_nil]); first | done | rfl | (simp only [List.length_drop, List.length_take]; rfl)) ?_; (with_reducible refine (tenorref6_fit.calls ((rd_T63 l0_1 x4_1).f0) ((rd_T63 l0_1 x4_1).f1) ((rd_T63 l0_1 x4_1).f2) ((rd_T63 l0_1 x4_1).f3) ((rd_T63 l0_1 x4_1).f4) ((rd_T63 l0_1 x4_1).f5) ((rd_T63 l0_1 x4_1).f6) ((rd_T63 l0_1 x4_1).f7) ((rd_T63 l0_1 x4_1).f8) false _ A11.out).mono ?_); rintro e w16 ⟨rfl, hb⟩; refine ⟨_, rfl, ?_⟩; have n0_ := Aside0.mk (blk_below (g := gb185) (o := .cells #[.int .i64 a0_0, .slice (some ad187) l0_1.length c0_1] 24 (0, 0)) (by (with_reducible repeat (first | refine blk_drewN ?_ _ | refine blk_drew ?_ | refine blk_alloc ?_ _)); exact BK185.out) hb); have n1_ := Aside0.mk (below_step (by repeat (first | (with_reducible first | exact HB.out | apply below_alloc | apply pw_below_drewN | apply below_drew1 | refine below_set ?_ GE185.out) | exact HB.out)) hb); clear BK185; clear HB; have BK185 := n0_; have HB := n1_; clear n0_ n1_; (try clear hb); (try clear hb2); (try clear hk); (try clear hi)))
        go_ret2
        exact ⟨by first | rfl | (simp [errW_none, errW_some] <;> rfl) | (simp [*, errW_none, errW_some] <;> rfl), by repeat (first | (with_reducible first | exact HB.out | apply below_alloc | apply pw_below_drewN | apply below_drew1 | refine below_set ?_ GE185.out) | exact HB.out)⟩
      ·
       rw [if_neg c10] at H
       exact absurd H (by simp)
     ·
      rw [if_neg c9] at H
      have c9b0 : decide (x4_1 < (l0_1.length : Int)) = false := decide_eq_false c9
      clear c9
      simp only [Option.some.injEq, Prod.mk.injEq] at H
      obtain ⟨rfl, rfl⟩ := H
      have hcz17_0 : wr.cell? ⟨gb185, 0, none⟩ = some (.int .i64 a0_0) := (blk_cell BK185.out 0).trans rfl
      have hcz17_1 : wr.cell? ⟨gb185, 1, none⟩ = some (.slice A0_1 l0_1.length c0_1) := (blk_cell BK185.out 1).trans rfl
      have hfz17_0 := blk_frozen BK185.out 0;have hfz17_1 := blk_frozen BK185.out 1
      go_wp2
      go_ret2
      exact ⟨by first | rfl | (simp [errW_none, errW_some] <;> rfl) | (simp [*, errW_none, errW_some] <;> rfl), by repeat (first | (with_reducible first | exact HB.out | apply below_alloc | apply pw_below_drewN | apply below_drew1 | refine below_set ?_ GE185.out) | exact HB.out)⟩
  ·
   replace c6 := Bool.eq_false_iff.mpr c6;subst c6
   have H1 : (some (60, (-1))) = some (r1, r2) := by rw [if_neg (show ¬ (false = true) by decide)] at H; exact H
   clear H;have H := H1;clear H1
   simp only [Option.some.injEq, Prod.mk.injEq] at H
   obtain ⟨rfl, rfl⟩ := H
   go_enter Try.func45, Try.ntmps45
   go_wp2_with (first | ((with_reducible refine gate_dst (N := 1) rfl ?_); refine box_event ?hg (N := 1) ?hd (cs := #[.int .i64 a0_0, .slice A0_1 l0_1.length c0_1]) (t := 24) ?hr ?_; (case hd => rfl); (case hg => rfl); (case hr => first | (go_simp; done) | (go_simp; rfl)); intro gb185 hg w18 hbox hb; have n0_ := Aside0.mk (below_step (by repeat (first | (with_reducible first | exact HB.out | apply below_alloc | apply pw_below_drewN | apply below_drew1) | exact HB.out)) hb); have n1_ := Aside0.mk (hbox); have n2_ := Aside0.mk ((by rw [hg]; exact (below_size (by repeat (first | (with_reducible first | exact HB.out | apply below_alloc | apply pw_below_drewN | apply below_drew1) | exact HB.out))) : w.heap.size ≤ gb185)); have n3_ := Aside0.mk ((by rw [hg]; exact (below_size (by repeat (first | (with_reducible first | exact HB.out | apply below_alloc | apply pw_below_drewN | apply below_drew1) | exact HB.out))) : w.heap.size ≤ gb185)); clear HB; have HB := n0_; have BK185 := n1_; have GW185 := n2_; have GE185 := n3_; clear n0_ n1_ n2_ n3_; clear hb hbox hg; have hcz19_0 : w18.cell? ⟨gb185, 0, none⟩ = some (.int .i64 a0_0) := (blk_cell BK185.out 0).trans rfl; have hcz19_1 : w18.cell? ⟨gb185, 1, none⟩ = some (.slice A0_1 l0_1.length c0_1) := (blk_cell BK185.out 1).trans rfl; have hfz19_0 := blk_frozen BK185.out 0; have hfz19_1 := blk_frozen BK185.out 1) | ((with_reducible refine gate_callee (f := 79) rfl ?_); refine goesL_ (some 11) rfl rfl Try.func79 (by kernel_rfl) rfl #[.int .i64 a0_0, .int .i64 0, .int .i64 126] rfl (by (try simp only [List.map_toArray, List.map_cons, List.map_nil]); first | done | rfl | (simp only [List.length_drop, List.length_take]; rfl)) ?_; (with_reducible refine (tenorref6_in.calls a0_0 0 126 false _ A5.out).mono ?_); rintro e w' ⟨rfl, ⟨nd, rfl⟩⟩; refine ⟨_, rfl, ?_⟩))
   go_ret2
   exact ⟨by first | rfl | (simp [errW_none, errW_some] <;> rfl) | (simp [*, errW_none, errW_some] <;> rfl), by repeat (first | (with_reducible first | exact HB.out | apply below_alloc | apply pw_below_drewN | apply below_drew1 | refine below_set ?_ GE185.out) | exact HB.out)⟩
def tenorref5_Leap.f (a0 : Int) : Option (Bool) := if (Int.tmod a0 4) = 0 then (if (Int.tmod a0 100) = 0 then (some ((Int.tmod a0 400) == 0)) else (some true)) else (some ((Int.tmod a0 400) == 0))
set_option maxHeartbeats 8000000 in
set_option maxRecDepth 100000 in
theorem tenorref5_Leap.calls (a0 : Int) (r : Bool) (w : World) (h : tenorref5_Leap.f a0 = some r) :
  Calls Try.prog 98 #[.int .i64 a0] w fun e w' => e = .returned (.bool r) ∧ Drawn0 w w' := by
 have H : (if (Int.tmod a0 4) = 0 then (if (Int.tmod a0 100) = 0 then (some ((Int.tmod a0 400) == 0)) else (some true)) else (some ((Int.tmod a0 400) == 0))) = some r := h
 clear h
 by_cases c2 : (Int.tmod a0 4) = 0
 ·
  rw [if_pos c2] at H
  have c2b0 : ((Int.tmod a0 4) == 0) = true := beq_iff_eq.mpr c2
  have c2b1 : ((Int.tmod a0 4) != 0) = false := bne_eq_false_iff_eq.mpr c2
  clear c2
  by_cases c3 : (Int.tmod a0 100) = 0
  ·
   rw [if_pos c3] at H
   have c3b0 : ((Int.tmod a0 100) == 0) = true := beq_iff_eq.mpr c3
   have c3b1 : ((Int.tmod a0 100) != 0) = false := bne_eq_false_iff_eq.mpr c3
   clear c3
   obtain rfl := Option.some.inj H
   go_enter Try.func98, Try.ntmps98
   go_wp2
   go_ret
   exact ⟨by first | rfl | (simp; done) | (simp [*]; done), by repeat (first | exact Drawn0.refl _ | apply Drawn0.step)⟩
  ·
   rw [if_neg c3] at H
   have c3b0 : ((Int.tmod a0 100) == 0) = false := beq_eq_false_iff_ne.mpr c3
   have c3b1 : ((Int.tmod a0 100) != 0) = true := bne_iff_ne.mpr c3
   obtain rfl := Option.some.inj H
   go_enter Try.func98, Try.ntmps98
   go_wp2
   go_ret
   exact ⟨by first | rfl | (simp; done) | (simp [*]; done), by repeat (first | exact Drawn0.refl _ | apply Drawn0.step)⟩
 ·
  rw [if_neg c2] at H
  have c2b0 : ((Int.tmod a0 4) == 0) = false := beq_eq_false_iff_ne.mpr c2
  have c2b1 : ((Int.tmod a0 4) != 0) = true := bne_iff_ne.mpr c2
  obtain rfl := Option.some.inj H
  go_enter Try.func98, Try.ntmps98
  go_wp2
  go_ret
  exact ⟨by first | rfl | (simp; done) | (simp [*]; done), by repeat (first | exact Drawn0.refl _ | apply Drawn0.step)⟩
end Go.Proofs.Ytoncignjcgjhhaa.Q
