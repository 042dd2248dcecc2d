/- Contracts and facts of functions of the program (calendar, dates and their documents), joined in one text by a program of this session. No condition but what each theorem states. -/
import Derived.Test.YtoncignjcgjhhaaTGC
import Derived.Test.YtoncignjcgjhhaaRows
import Derived.Lib.SmallJoins
import Derived.Deep.Slices
import Derived.Deep.Fields
import Derived.ChangeSame
import Derived.ProofKit
import Derived.OpenShut
import Derived.ChangeOld
import Derived.SizedLaws
import Derived.Test.YtoncignjcgjhhaaTGA
import Derived.Test.YtoncignjcgjhhaaTGB
import Derived.Maps.Views
set_option linter.unusedVariables false
set_option linter.unusedSimpArgs false
namespace Go.Proofs.Ytoncignjcgjhhaa.O
open Go.ChangeShapes Go.WideShapes Go.ChangeAt Go.RowKit Go.Deep Go.Joins
open Go.Proofs.YtoncignjcgjhhaaW.PrintWords
open Go.Proofs.Ytoncignjcgjhhaa.Q (S63 k63 k63_mk wfL wfL_of)
theorem i64_of {a : Int} (h : (Lit.int .i64 a).wf = true) : L.i64 a := by
 have hmin : IntKind.i64.min = -9223372036854775808 := rfl
 have hmax : IntKind.i64.max = 9223372036854775807 := rfl
 simp only [Lit.wf, Bool.and_eq_true, decide_eq_true_eq] at h
 unfold L.i64; omega
variable {K : Type} {enc : TypeId × Value → K} {W : World}
set_option maxRecDepth 100000 in
theorem rule_cells {n : Nat} {cs : List Value} {x : DataW K × List MemPlace} (h : DataW.trod enc Try.prog W 0 (fun _ => true) true n 63 cs = some x) (hl : cs.length = 9) :
  ∃ e : S63, H.wfS e ∧ cs = [.int .i64 e.f0, .int .i64 e.f1, .int .i64 e.f2, .int .i64 e.f3, .int .i64 e.f4, .int .i64 e.f5, .int .i64 e.f6, .int .i64 e.f7, .int .i64 e.f8] := by
 obtain ⟨ys, n', _, _, _, hyl, hf⟩ := DataW.trod_struct Try.underlying63 h
 have key : ∀ (j : Nat) (f : Field), j < 9 → (match Try.prog.underlying 63 with | some (.struct fs) => fs[j]? | _ => none) = some f → f.type = 3 → ∃ a, cs[j]? = some (.int .i64 a) ∧ (Lit.int .i64 a).wf = true := by
  intro j f hj hfj ht
  rw [Try.underlying63] at hfj
  obtain ⟨ho, hk⟩ := hone_of (P := Try.prog) (by kernel_rfl) j f hfj
  have h1 := hf j f hfj
  rw [ho, hk, ht] at h1
  have e1 : (cs.drop j).take 1 = [cs[j]'(by omega)] := by rw [List.drop_eq_getElem_cons (by omega)]; rfl
  rw [e1] at h1
  have hy : ys[j]? = some (ys[j]'(by rw [hyl]; exact (Array.getElem?_eq_some_iff.1 hfj).1)) := List.getElem?_eq_getElem _
  obtain ⟨a, e0, _, wa⟩ := DataW.trod_int Try.underlying3 (h1.trans hy)
  refine ⟨a, ?_, wa⟩
  rw [List.getElem?_eq_getElem (by omega)]
  exact congrArg some (List.cons.inj e0).1
 obtain ⟨a0, e0, w0⟩ := key 0 _ (by omega) (by rw [Try.underlying63]; rfl) rfl
 obtain ⟨a1, e1, w1⟩ := key 1 _ (by omega) (by rw [Try.underlying63]; rfl) rfl
 obtain ⟨a2, e2, w2⟩ := key 2 _ (by omega) (by rw [Try.underlying63]; rfl) rfl
 obtain ⟨a3, e3, w3⟩ := key 3 _ (by omega) (by rw [Try.underlying63]; rfl) rfl
 obtain ⟨a4, e4, w4⟩ := key 4 _ (by omega) (by rw [Try.underlying63]; rfl) rfl
 obtain ⟨a5, e5, w5⟩ := key 5 _ (by omega) (by rw [Try.underlying63]; rfl) rfl
 obtain ⟨a6, e6, w6⟩ := key 6 _ (by omega) (by rw [Try.underlying63]; rfl) rfl
 obtain ⟨a7, e7, w7⟩ := key 7 _ (by omega) (by rw [Try.underlying63]; rfl) rfl
 obtain ⟨a8, e8, w8⟩ := key 8 _ (by omega) (by rw [Try.underlying63]; rfl) rfl
 refine ⟨⟨a0, a1, a2, a3, a4, a5, a6, a7, a8⟩, ⟨i64_of w0, i64_of w1, i64_of w2, i64_of w3, i64_of w4, i64_of w5, i64_of w6, i64_of w7, i64_of w8⟩, ?_⟩
 match cs, hl with
 | [c0, c1, c2, c3, c4, c5, c6, c7, c8], _ =>
  simp only [List.getElem?_cons_zero, List.getElem?_cons_succ, Option.some.injEq] at e0 e1 e2 e3 e4 e5 e6 e7 e8
  subst e0 e1 e2 e3 e4 e5 e6 e7 e8
  rfl
theorem cells63 : Try.prog.cellsOf 63 = 9 := by kernel_rfl
theorem cells24 : Try.prog.cellsOf 24 = 2 := by kernel_rfl
set_option maxRecDepth 100000 in
theorem rules_open {n : Nat} {v : Value} {x : DataW K × List MemPlace} (h : DataW.trod enc Try.prog W 0 (fun _ => true) true n 22 [v] = some x) :
  ∃ (A : Option Addr) (c : Nat) (l : List S63), v = .slice A l.length c ∧ l.length ≤ c ∧ Kd.C k63 W A l.length l ∧ wfL l := by
 rcases open_slice Try.underlying22 h with ⟨hcs, _⟩ | ⟨a, len, cap, m, n', D, Pl, hcs, _, hl, hm, hmm, _, hel⟩
 ·
  injection hcs with hcs
  exact ⟨none, 0, [], hcs, Nat.le_refl _, ⟨rfl, by simp, fun h => absurd h (by simp)⟩, wfL_of (by simp)⟩
 ·
  injection hcs with hcs
  rw [if_pos rfl] at hmm
  subst hmm
  have key : ∀ i, i < len → ∃ e : S63, H.wfS e ∧ ∀ j u, [Value.int .i64 e.f0, .int .i64 e.f1, .int .i64 e.f2, .int .i64 e.f3, .int .i64 e.f4, .int .i64 e.f5, .int .i64 e.f6, .int .i64 e.f7, .int .i64 e.f8][j]? = some u → W.cell? (a.add (i * 9 + j)) = some u := by
   intro i hi
   obtain ⟨cs', hc, ht⟩ := hel i (by omega)
   rw [cells63] at hc
   obtain ⟨_, hcl, hat⟩ := World.cells?_some hc
   obtain ⟨e, hw, he⟩ := rule_cells ht hcl
   refine ⟨e, hw, fun j u hj => ?_⟩
   rw [← he] at hj
   have hjl : j < 9 := by have := (List.getElem?_eq_some_iff.1 hj).1; omega
   have hcell := hat j hjl
   rw [← Go.Deep.add_add, hcell, hj]
  let g : Nat → S63 := fun i => if hi : i < len then Classical.choose (key i hi) else Q.z63
  have hg : ∀ i (hi : i < len), g i = Classical.choose (key i hi) := fun i hi => dif_pos hi
  have hlen : ((List.range len).map g).length = len := by simp
  have hmax : maxLen = 9223372036854775807 := rfl
  refine ⟨some a, m, (List.range len).map g, by rw [hlen]; exact hcs, by rw [hlen]; exact hl, ⟨rfl, by rw [hlen]; omega, fun _ => ⟨a, rfl, fun j p hp => ?_⟩⟩, wfL_of fun x hx => ?_⟩
  ·
   have hj : j < len := by have := (List.getElem?_eq_some_iff.1 hp).1; rw [hlen] at this; exact this
   have hp' : g j = p := by
    have := hp
    rw [List.getElem?_map, List.getElem?_range hj] at this
    exact Option.some.inj this
   have hs := Classical.choose_spec (key j hj)
   rw [← hg j hj, hp'] at hs
   exact ⟨_, rfl, k63_mk W p, fun i u hu => hs.2 i u hu⟩
  ·
   obtain ⟨i, hi, rfl⟩ := List.mem_map.1 hx
   have hi := List.mem_range.1 hi
   rw [hg i hi]
   exact (Classical.choose_spec (key i hi)).1
set_option maxRecDepth 100000 in
theorem cal_open {r : Reach} {b0 : Nat} {v : Value} {d : DataW K} {p : List MemPlace} (hv : Value.okWide Try.prog W r b0 24 v) (h : DataW.Trod enc Try.prog W 0 (fun _ => true) true 24 v d p) :
  ∃ (we : Int) (A : Option Addr) (c : Nat) (l : List S63), v = .agg #[.int .i64 we, .slice A l.length c] ∧ l.length ≤ c ∧ Kd.C k63 W A l.length l ∧ wfL l ∧ L.i64 we := by
 obtain ⟨c0, c1, y0, y1, m, rfl, _, _, hy0, hy1⟩ := open_agg2 Try.underlying24 (by kernel_rfl) cells24 hv h
 obtain ⟨a, e0, _, wa⟩ := DataW.trod_int Try.underlying3 hy0
 obtain rfl := (List.cons.inj e0).1
 obtain ⟨A, c, l, rfl, hc, hk, hw⟩ := rules_open hy1
 exact ⟨a, A, c, l, rfl, hc, hk, hw, i64_of wa⟩
end Go.Proofs.Ytoncignjcgjhhaa.O
namespace Go.Proofs.Ytoncignjcgjhhaa.Q
open Go.RowKit Go.Proofs.YtoncignjcgjhhaaW.PrintWords Go.Proofs.YtoncignjcgjhhaaW.PrintLast Go.Proofs.YtoncignjcgjhhaaW.PrintMore
attribute [local go_sem] max2_int min2_int max_two min_two max_three min_three max_four min_four   -- for this text's walks alone
def date_Months.j0 : Nat → Int → Int → Bool → Bool → Option (Int × Int)
  | 0, _, _, _, _ => none
  | k + 1, x0, x1, x2, x24 => if x24 = true then (some (0, 51)) else ((date_civil.f k x0).bind fun bt721 => ((date_length.f bt721.1 bt721.2.1).bind fun t724 => ((date_month.f (wrap64 (Int.tdiv (wrap64 ((wrap64 ((wrap64 ((wrap64 (12 * bt721.1)) + bt721.2.1)) - 1)) + x1)) 12)) (wrap64 ((Int.tmod (wrap64 ((wrap64 ((wrap64 ((wrap64 (12 * bt721.1)) + bt721.2.1)) - 1)) + x1)) 12) + 1))).bind fun t725 => (if t725 = true then ((date_length.f (wrap64 (Int.tdiv (wrap64 ((wrap64 ((wrap64 ((wrap64 (12 * bt721.1)) + bt721.2.1)) - 1)) + x1)) 12)) (wrap64 ((Int.tmod (wrap64 ((wrap64 ((wrap64 ((wrap64 (12 * bt721.1)) + bt721.2.1)) - 1)) + x1)) 12) + 1))).bind fun t726 => (if bt721.2.2 > t726 then ((date_day.f k (wrap64 (Int.tdiv (wrap64 ((wrap64 ((wrap64 ((wrap64 (12 * bt721.1)) + bt721.2.1)) - 1)) + x1)) 12)) (wrap64 ((Int.tmod (wrap64 ((wrap64 ((wrap64 ((wrap64 (12 * bt721.1)) + bt721.2.1)) - 1)) + x1)) 12) + 1)) t726).bind fun t727 => (some (t727, 0))) else (if x2 = true then (if bt721.2.2 = t724 then ((date_day.f k (wrap64 (Int.tdiv (wrap64 ((wrap64 ((wrap64 ((wrap64 (12 * bt721.1)) + bt721.2.1)) - 1)) + x1)) 12)) (wrap64 ((Int.tmod (wrap64 ((wrap64 ((wrap64 ((wrap64 (12 * bt721.1)) + bt721.2.1)) - 1)) + x1)) 12) + 1)) t726).bind fun t728 => (some (t728, 0))) else ((date_day.f k (wrap64 (Int.tdiv (wrap64 ((wrap64 ((wrap64 ((wrap64 (12 * bt721.1)) + bt721.2.1)) - 1)) + x1)) 12)) (wrap64 ((Int.tmod (wrap64 ((wrap64 ((wrap64 ((wrap64 (12 * bt721.1)) + bt721.2.1)) - 1)) + x1)) 12) + 1)) bt721.2.2).bind fun t729 => (some (t729, 0)))) else ((date_day.f k (wrap64 (Int.tdiv (wrap64 ((wrap64 ((wrap64 ((wrap64 (12 * bt721.1)) + bt721.2.1)) - 1)) + x1)) 12)) (wrap64 ((Int.tmod (wrap64 ((wrap64 ((wrap64 ((wrap64 (12 * bt721.1)) + bt721.2.1)) - 1)) + x1)) 12) + 1)) bt721.2.2).bind fun t730 => (some (t730, 0)))))) else (some (0, 51))))))
def date_Months.f (k : Nat) (a0 : Int) (a1 : Int) (a2 : Bool) : Option (Int × Int) := (date_is.f a0).bind fun t720 => (if t720 = true then (if a1 < (-4000) then (date_Months.j0 k a0 a1 a2 true) else (date_Months.j0 k a0 a1 a2 (decide (a1 > 4000)))) else (date_Months.j0 k a0 a1 a2 true))
theorem date_Months.mono_l : ∀ k, (∀ y0 y1 y2 y3, LeO (date_Months.j0 k y0 y1 y2 y3) (date_Months.j0 (k + 1) y0 y1 y2 y3))
 | 0 => fun _ _ _ _ r h => by simp [date_Months.j0] at h
 | k + 1 => by
  have ih0 := date_Months.mono_l k
  ·
   intro y0 y1 y2 y3
   unfold date_Months.j0
   repeat' first
   | (with_reducible exact ih0 _ _ _ _)
   | (with_reducible exact date_civil.mono _ _)
   | (with_reducible exact date_day.mono _ _ _ _)
   | (with_reducible exact LeO.refl _)
   | (with_reducible exact LeO.none _)
   | (with_reducible refine LeO.ite ?_ ?_)
   | (with_reducible refine LeO.bind ?_ (fun _ => ?_))
   | exact ih0 _ _ _ _
   | exact date_civil.mono _ _
   | exact date_day.mono _ _ _ _
   | exact LeO.none _
   | refine LeO.ite ?_ ?_
   | refine LeO.bind ?_ (fun _ => ?_)
theorem date_Months.mono : ∀ a0 a1 a2 k, LeO (date_Months.f k a0 a1 a2) (date_Months.f (k + 1) a0 a1 a2) := by
 intro a0 a1 a2 k
 have ih0 := date_Months.mono_l k
 unfold date_Months.f
 repeat' first
   | (with_reducible exact ih0 _ _ _ _)
   | (with_reducible exact date_civil.mono _ _)
   | (with_reducible exact date_day.mono _ _ _ _)
   | (with_reducible exact LeO.refl _)
   | (with_reducible exact LeO.none _)
   | (with_reducible refine LeO.ite ?_ ?_)
   | (with_reducible refine LeO.bind ?_ (fun _ => ?_))
   | exact ih0 _ _ _ _
   | exact date_civil.mono _ _
   | exact date_day.mono _ _ _ _
   | exact LeO.none _
   | refine LeO.ite ?_ ?_
   | refine LeO.bind ?_ (fun _ => ?_)
set_option maxHeartbeats 8000000 in
set_option maxRecDepth 100000 in
theorem date_Months.calls (k : Nat) (a0 : Int) (a1 : Int) (a2 : Bool) (r1 : Int) (r2 : Int) (w : World) (h : date_Months.f k a0 a1 a2 = some (r1, r2)) :
  Calls Try.prog 112 #[.int .i64 a0, .int .i64 a1, .bool a2] w fun e w' => e = .returned (.tuple #[.int .i64 r1, .int .i64 r2]) ∧ Drawn0 w w' := by
 have H : ((date_is.f a0).bind fun t720 => (if t720 = true then (if a1 < (-4000) then (date_Months.j0 k a0 a1 a2 true) else (date_Months.j0 k a0 a1 a2 (decide (a1 > 4000)))) else (date_Months.j0 k a0 a1 a2 true))) = some (r1, r2) := h
 clear h;have HC4 := Aside0.mk H;clear H
 go_enter Try.func112, Try.ntmps112
 go_upto_region 1 with (fail)
 go_cut [24] (fun v24 wc => ∃ (kq : Nat) (x24_3 : Bool), v24 = .bool x24_3 ∧ Aside0 (date_Months.j0 kq a0 a1 a2 x24_3 = some (r1, r2)) ∧ Aside0 (kq ≤ k) ∧ Drawn0 w wc)
 case first =>
  have H := HC4.out;clear HC4;replace H := Option.bind_eq_some_iff.mp H
  obtain ⟨t720, A50, H⟩ := H
  replace H : (if t720 = true then (if a1 < (-4000) then (date_Months.j0 k a0 a1 a2 true) else (date_Months.j0 k a0 a1 a2 (decide (a1 > 4000)))) else (date_Months.j0 k a0 a1 a2 true)) = some (r1, r2) := H
  have A5 := Aside0.mk A50;clear A50
  by_cases c6 : t720 = true
  ·
   subst c6
   have H1 : (if a1 < (-4000) then (date_Months.j0 k a0 a1 a2 true) else (date_Months.j0 k a0 a1 a2 (decide (a1 > 4000)))) = some (r1, r2) := by rw [if_pos rfl] at H; exact H
   clear H;have H := H1;clear H1
   by_cases c7 : a1 < (-4000)
   ·
    rw [if_pos c7] at H
    have c7b0 : decide (a1 < (-4000)) = true := decide_eq_true c7
    clear c7
    (first | rw [c7b0] | (simp only [i64_w, i32_w]; rw [c7b0]) | skip)
    have H' := Aside0.mk H;clear H
    go_wp2_with (first | ((with_reducible refine gate_callee (f := 119) rfl ?_); refine goesL_ (some 15) rfl rfl Try.func119 (by kernel_rfl) rfl #[.int .i64 a0] rfl (by (try simp only [List.map_toArray, List.map_cons, List.map_nil]); first | done | rfl | (simp only [List.length_drop, List.length_take]; rfl)) ?_; (with_reducible refine (date_is.calls a0 true _ A5.out).mono ?_); rintro e w' ⟨rfl, ⟨nd, rfl⟩⟩; refine ⟨_, rfl, ?_⟩))
    go_meet
    case rel => exact ⟨_, (true), (by first | rfl | (simp; done) | (simp [*]; done)), H', ⟨by first | omega | exact Nat.le_refl _⟩, by repeat (first | exact Drawn0.refl _ | apply Drawn0.step)⟩
   ·
    rw [if_neg c7] at H
    have c7b0 : decide (a1 < (-4000)) = false := decide_eq_false c7
    clear c7
    (first | rw [c7b0] | (simp only [i64_w, i32_w]; rw [c7b0]) | skip)
    have H' := Aside0.mk H;clear H
    go_wp2_with (first | ((with_reducible refine gate_callee (f := 119) rfl ?_); refine goesL_ (some 15) rfl rfl Try.func119 (by kernel_rfl) rfl #[.int .i64 a0] rfl (by (try simp only [List.map_toArray, List.map_cons, List.map_nil]); first | done | rfl | (simp only [List.length_drop, List.length_take]; rfl)) ?_; (with_reducible refine (date_is.calls a0 true _ A5.out).mono ?_); rintro e w' ⟨rfl, ⟨nd, rfl⟩⟩; refine ⟨_, rfl, ?_⟩))
    go_meet
    case rel => exact ⟨_, (decide (a1 > 4000)), (by first | rfl | (simp; done) | (simp [*]; done)), H', ⟨by first | omega | exact Nat.le_refl _⟩, by repeat (first | exact Drawn0.refl _ | apply Drawn0.step)⟩
  ·
   replace c6 := Bool.eq_false_iff.mpr c6;subst c6
   have H1 : (date_Months.j0 k a0 a1 a2 true) = some (r1, r2) := by rw [if_neg (show ¬ (false = true) by decide)] at H; exact H
   clear H;have H := H1;clear H1;have H' := Aside0.mk H;clear H
   go_wp2_with (first | ((with_reducible refine gate_callee (f := 119) rfl ?_); refine goesL_ (some 15) rfl rfl Try.func119 (by kernel_rfl) rfl #[.int .i64 a0] rfl (by (try simp only [List.map_toArray, List.map_cons, List.map_nil]); first | done | rfl | (simp only [List.length_drop, List.length_take]; rfl)) ?_; (with_reducible refine (date_is.calls a0 false _ A5.out).mono ?_); rintro e w' ⟨rfl, ⟨nd, rfl⟩⟩; refine ⟨_, rfl, ?_⟩))
   go_meet
   case rel => exact ⟨_, (true), (by first | rfl | (simp; done) | (simp [*]; done)), H', ⟨by first | omega | exact Nat.le_refl _⟩, by repeat (first | exact Drawn0.refl _ | apply Drawn0.step)⟩
 case rest =>
  clear HC4
  obtain ⟨kq, x24_3, rfl, HA, HJ3, ⟨mc3, rfl⟩⟩ := hcut
  cases kq with
  | zero => exact absurd HA.out (by simp [date_Months.j0])
  | succ kj3 =>
   have H := HA.out;clear HA
   simp only [date_Months.j0] at H
   by_cases c8 : x24_3 = true
   ·
    subst c8
    have H1 : (some (0, 51)) = some (r1, r2) := by rw [if_pos rfl] at H; exact H
    clear H;have H := H1;clear H1
    simp only [Option.some.injEq, Prod.mk.injEq] at H
    obtain ⟨rfl, rfl⟩ := H
    go_wp2
    go_ret2
    exact ⟨by first | rfl | (simp; done) | (simp [*]; done), by repeat (first | exact Drawn0.refl _ | apply Drawn0.step)⟩
   ·
    replace c8 := Bool.eq_false_iff.mpr c8;subst c8
    have H1 : ((date_civil.f kj3 a0).bind fun bt721 => ((date_length.f bt721.1 bt721.2.1).bind fun t724 => ((date_month.f (wrap64 (Int.tdiv (wrap64 ((wrap64 ((wrap64 ((wrap64 (12 * bt721.1)) + bt721.2.1)) - 1)) + a1)) 12)) (wrap64 ((Int.tmod (wrap64 ((wrap64 ((wrap64 ((wrap64 (12 * bt721.1)) + bt721.2.1)) - 1)) + a1)) 12) + 1))).bind fun t725 => (if t725 = true then ((date_length.f (wrap64 (Int.tdiv (wrap64 ((wrap64 ((wrap64 ((wrap64 (12 * bt721.1)) + bt721.2.1)) - 1)) + a1)) 12)) (wrap64 ((Int.tmod (wrap64 ((wrap64 ((wrap64 ((wrap64 (12 * bt721.1)) + bt721.2.1)) - 1)) + a1)) 12) + 1))).bind fun t726 => (if bt721.2.2 > t726 then ((date_day.f kj3 (wrap64 (Int.tdiv (wrap64 ((wrap64 ((wrap64 ((wrap64 (12 * bt721.1)) + bt721.2.1)) - 1)) + a1)) 12)) (wrap64 ((Int.tmod (wrap64 ((wrap64 ((wrap64 ((wrap64 (12 * bt721.1)) + bt721.2.1)) - 1)) + a1)) 12) + 1)) t726).bind fun t727 => (some (t727, 0))) else (if a2 = true then (if bt721.2.2 = t724 then ((date_day.f kj3 (wrap64 (Int.tdiv (wrap64 ((wrap64 ((wrap64 ((wrap64 (12 * bt721.1)) + bt721.2.1)) - 1)) + a1)) 12)) (wrap64 ((Int.tmod (wrap64 ((wrap64 ((wrap64 ((wrap64 (12 * bt721.1)) + bt721.2.1)) - 1)) + a1)) 12) + 1)) t726).bind fun t728 => (some (t728, 0))) else ((date_day.f kj3 (wrap64 (Int.tdiv (wrap64 ((wrap64 ((wrap64 ((wrap64 (12 * bt721.1)) + bt721.2.1)) - 1)) + a1)) 12)) (wrap64 ((Int.tmod (wrap64 ((wrap64 ((wrap64 ((wrap64 (12 * bt721.1)) + bt721.2.1)) - 1)) + a1)) 12) + 1)) bt721.2.2).bind fun t729 => (some (t729, 0)))) else ((date_day.f kj3 (wrap64 (Int.tdiv (wrap64 ((wrap64 ((wrap64 ((wrap64 (12 * bt721.1)) + bt721.2.1)) - 1)) + a1)) 12)) (wrap64 ((Int.tmod (wrap64 ((wrap64 ((wrap64 ((wrap64 (12 * bt721.1)) + bt721.2.1)) - 1)) + a1)) 12) + 1)) bt721.2.2).bind fun t730 => (some (t730, 0)))))) else (some (0, 51)))))) = some (r1, r2) := by rw [if_neg (show ¬ (false = true) by decide)] at H; exact H
    clear H;have H := H1;clear H1;replace H := Option.bind_eq_some_iff.mp H
    obtain ⟨⟨t721, t722, t723⟩, A90, H⟩ := H
    replace H : ((date_length.f t721 t722).bind fun t724 => ((date_month.f (wrap64 (Int.tdiv (wrap64 ((wrap64 ((wrap64 ((wrap64 (12 * t721)) + t722)) - 1)) + a1)) 12)) (wrap64 ((Int.tmod (wrap64 ((wrap64 ((wrap64 ((wrap64 (12 * t721)) + t722)) - 1)) + a1)) 12) + 1))).bind fun t725 => (if t725 = true then ((date_length.f (wrap64 (Int.tdiv (wrap64 ((wrap64 ((wrap64 ((wrap64 (12 * t721)) + t722)) - 1)) + a1)) 12)) (wrap64 ((Int.tmod (wrap64 ((wrap64 ((wrap64 ((wrap64 (12 * t721)) + t722)) - 1)) + a1)) 12) + 1))).bind fun t726 => (if t723 > t726 then ((date_day.f kj3 (wrap64 (Int.tdiv (wrap64 ((wrap64 ((wrap64 ((wrap64 (12 * t721)) + t722)) - 1)) + a1)) 12)) (wrap64 ((Int.tmod (wrap64 ((wrap64 ((wrap64 ((wrap64 (12 * t721)) + t722)) - 1)) + a1)) 12) + 1)) t726).bind fun t727 => (some (t727, 0))) else (if a2 = true then (if t723 = t724 then ((date_day.f kj3 (wrap64 (Int.tdiv (wrap64 ((wrap64 ((wrap64 ((wrap64 (12 * t721)) + t722)) - 1)) + a1)) 12)) (wrap64 ((Int.tmod (wrap64 ((wrap64 ((wrap64 ((wrap64 (12 * t721)) + t722)) - 1)) + a1)) 12) + 1)) t726).bind fun t728 => (some (t728, 0))) else ((date_day.f kj3 (wrap64 (Int.tdiv (wrap64 ((wrap64 ((wrap64 ((wrap64 (12 * t721)) + t722)) - 1)) + a1)) 12)) (wrap64 ((Int.tmod (wrap64 ((wrap64 ((wrap64 ((wrap64 (12 * t721)) + t722)) - 1)) + a1)) 12) + 1)) t723).bind fun t729 => (some (t729, 0)))) else ((date_day.f kj3 (wrap64 (Int.tdiv (wrap64 ((wrap64 ((wrap64 ((wrap64 (12 * t721)) + t722)) - 1)) + a1)) 12)) (wrap64 ((Int.tmod (wrap64 ((wrap64 ((wrap64 ((wrap64 (12 * t721)) + t722)) - 1)) + a1)) 12) + 1)) t723).bind fun t730 => (some (t730, 0)))))) else (some (0, 51))))) = some (r1, r2) := H
    have A9 := Aside0.mk A90;clear A90;replace H := Option.bind_eq_some_iff.mp H
    obtain ⟨t724, A100, H⟩ := H
    replace H : ((date_month.f (wrap64 (Int.tdiv (wrap64 ((wrap64 ((wrap64 ((wrap64 (12 * t721)) + t722)) - 1)) + a1)) 12)) (wrap64 ((Int.tmod (wrap64 ((wrap64 ((wrap64 ((wrap64 (12 * t721)) + t722)) - 1)) + a1)) 12) + 1))).bind fun t725 => (if t725 = true then ((date_length.f (wrap64 (Int.tdiv (wrap64 ((wrap64 ((wrap64 ((wrap64 (12 * t721)) + t722)) - 1)) + a1)) 12)) (wrap64 ((Int.tmod (wrap64 ((wrap64 ((wrap64 ((wrap64 (12 * t721)) + t722)) - 1)) + a1)) 12) + 1))).bind fun t726 => (if t723 > t726 then ((date_day.f kj3 (wrap64 (Int.tdiv (wrap64 ((wrap64 ((wrap64 ((wrap64 (12 * t721)) + t722)) - 1)) + a1)) 12)) (wrap64 ((Int.tmod (wrap64 ((wrap64 ((wrap64 ((wrap64 (12 * t721)) + t722)) - 1)) + a1)) 12) + 1)) t726).bind fun t727 => (some (t727, 0))) else (if a2 = true then (if t723 = t724 then ((date_day.f kj3 (wrap64 (Int.tdiv (wrap64 ((wrap64 ((wrap64 ((wrap64 (12 * t721)) + t722)) - 1)) + a1)) 12)) (wrap64 ((Int.tmod (wrap64 ((wrap64 ((wrap64 ((wrap64 (12 * t721)) + t722)) - 1)) + a1)) 12) + 1)) t726).bind fun t728 => (some (t728, 0))) else ((date_day.f kj3 (wrap64 (Int.tdiv (wrap64 ((wrap64 ((wrap64 ((wrap64 (12 * t721)) + t722)) - 1)) + a1)) 12)) (wrap64 ((Int.tmod (wrap64 ((wrap64 ((wrap64 ((wrap64 (12 * t721)) + t722)) - 1)) + a1)) 12) + 1)) t723).bind fun t729 => (some (t729, 0)))) else ((date_day.f kj3 (wrap64 (Int.tdiv (wrap64 ((wrap64 ((wrap64 ((wrap64 (12 * t721)) + t722)) - 1)) + a1)) 12)) (wrap64 ((Int.tmod (wrap64 ((wrap64 ((wrap64 ((wrap64 (12 * t721)) + t722)) - 1)) + a1)) 12) + 1)) t723).bind fun t730 => (some (t730, 0)))))) else (some (0, 51)))) = some (r1, r2) := H
    have A10 := Aside0.mk A100;clear A100;replace H := Option.bind_eq_some_iff.mp H
    obtain ⟨t725, A110, H⟩ := H
    replace H : (if t725 = true then ((date_length.f (wrap64 (Int.tdiv (wrap64 ((wrap64 ((wrap64 ((wrap64 (12 * t721)) + t722)) - 1)) + a1)) 12)) (wrap64 ((Int.tmod (wrap64 ((wrap64 ((wrap64 ((wrap64 (12 * t721)) + t722)) - 1)) + a1)) 12) + 1))).bind fun t726 => (if t723 > t726 then ((date_day.f kj3 (wrap64 (Int.tdiv (wrap64 ((wrap64 ((wrap64 ((wrap64 (12 * t721)) + t722)) - 1)) + a1)) 12)) (wrap64 ((Int.tmod (wrap64 ((wrap64 ((wrap64 ((wrap64 (12 * t721)) + t722)) - 1)) + a1)) 12) + 1)) t726).bind fun t727 => (some (t727, 0))) else (if a2 = true then (if t723 = t724 then ((date_day.f kj3 (wrap64 (Int.tdiv (wrap64 ((wrap64 ((wrap64 ((wrap64 (12 * t721)) + t722)) - 1)) + a1)) 12)) (wrap64 ((Int.tmod (wrap64 ((wrap64 ((wrap64 ((wrap64 (12 * t721)) + t722)) - 1)) + a1)) 12) + 1)) t726).bind fun t728 => (some (t728, 0))) else ((date_day.f kj3 (wrap64 (Int.tdiv (wrap64 ((wrap64 ((wrap64 ((wrap64 (12 * t721)) + t722)) - 1)) + a1)) 12)) (wrap64 ((Int.tmod (wrap64 ((wrap64 ((wrap64 ((wrap64 (12 * t721)) + t722)) - 1)) + a1)) 12) + 1)) t723).bind fun t729 => (some (t729, 0)))) else ((date_day.f kj3 (wrap64 (Int.tdiv (wrap64 ((wrap64 ((wrap64 ((wrap64 (12 * t721)) + t722)) - 1)) + a1)) 12)) (wrap64 ((Int.tmod (wrap64 ((wrap64 ((wrap64 ((wrap64 (12 * t721)) + t722)) - 1)) + a1)) 12) + 1)) t723).bind fun t730 => (some (t730, 0)))))) else (some (0, 51))) = some (r1, r2) := H
    have A11 := Aside0.mk A110;clear A110
    by_cases c12 : t725 = true
    ·
     subst c12
     have H1 : ((date_length.f (wrap64 (Int.tdiv (wrap64 ((wrap64 ((wrap64 ((wrap64 (12 * t721)) + t722)) - 1)) + a1)) 12)) (wrap64 ((Int.tmod (wrap64 ((wrap64 ((wrap64 ((wrap64 (12 * t721)) + t722)) - 1)) + a1)) 12) + 1))).bind fun t726 => (if t723 > t726 then ((date_day.f kj3 (wrap64 (Int.tdiv (wrap64 ((wrap64 ((wrap64 ((wrap64 (12 * t721)) + t722)) - 1)) + a1)) 12)) (wrap64 ((Int.tmod (wrap64 ((wrap64 ((wrap64 ((wrap64 (12 * t721)) + t722)) - 1)) + a1)) 12) + 1)) t726).bind fun t727 => (some (t727, 0))) else (if a2 = true then (if t723 = t724 then ((date_day.f kj3 (wrap64 (Int.tdiv (wrap64 ((wrap64 ((wrap64 ((wrap64 (12 * t721)) + t722)) - 1)) + a1)) 12)) (wrap64 ((Int.tmod (wrap64 ((wrap64 ((wrap64 ((wrap64 (12 * t721)) + t722)) - 1)) + a1)) 12) + 1)) t726).bind fun t728 => (some (t728, 0))) else ((date_day.f kj3 (wrap64 (Int.tdiv (wrap64 ((wrap64 ((wrap64 ((wrap64 (12 * t721)) + t722)) - 1)) + a1)) 12)) (wrap64 ((Int.tmod (wrap64 ((wrap64 ((wrap64 ((wrap64 (12 * t721)) + t722)) - 1)) + a1)) 12) + 1)) t723).bind fun t729 => (some (t729, 0)))) else ((date_day.f kj3 (wrap64 (Int.tdiv (wrap64 ((wrap64 ((wrap64 ((wrap64 (12 * t721)) + t722)) - 1)) + a1)) 12)) (wrap64 ((Int.tmod (wrap64 ((wrap64 ((wrap64 ((wrap64 (12 * t721)) + t722)) - 1)) + a1)) 12) + 1)) t723).bind fun t730 => (some (t730, 0)))))) = some (r1, r2) := by rw [if_pos rfl] at H; exact H
     clear H;have H := H1;clear H1;replace H := Option.bind_eq_some_iff.mp H
     obtain ⟨t726, A130, H⟩ := H
     replace H : (if t723 > t726 then ((date_day.f kj3 (wrap64 (Int.tdiv (wrap64 ((wrap64 ((wrap64 ((wrap64 (12 * t721)) + t722)) - 1)) + a1)) 12)) (wrap64 ((Int.tmod (wrap64 ((wrap64 ((wrap64 ((wrap64 (12 * t721)) + t722)) - 1)) + a1)) 12) + 1)) t726).bind fun t727 => (some (t727, 0))) else (if a2 = true then (if t723 = t724 then ((date_day.f kj3 (wrap64 (Int.tdiv (wrap64 ((wrap64 ((wrap64 ((wrap64 (12 * t721)) + t722)) - 1)) + a1)) 12)) (wrap64 ((Int.tmod (wrap64 ((wrap64 ((wrap64 ((wrap64 (12 * t721)) + t722)) - 1)) + a1)) 12) + 1)) t726).bind fun t728 => (some (t728, 0))) else ((date_day.f kj3 (wrap64 (Int.tdiv (wrap64 ((wrap64 ((wrap64 ((wrap64 (12 * t721)) + t722)) - 1)) + a1)) 12)) (wrap64 ((Int.tmod (wrap64 ((wrap64 ((wrap64 ((wrap64 (12 * t721)) + t722)) - 1)) + a1)) 12) + 1)) t723).bind fun t729 => (some (t729, 0)))) else ((date_day.f kj3 (wrap64 (Int.tdiv (wrap64 ((wrap64 ((wrap64 ((wrap64 (12 * t721)) + t722)) - 1)) + a1)) 12)) (wrap64 ((Int.tmod (wrap64 ((wrap64 ((wrap64 ((wrap64 (12 * t721)) + t722)) - 1)) + a1)) 12) + 1)) t723).bind fun t730 => (some (t730, 0))))) = some (r1, r2) := H
     have A13 := Aside0.mk A130;clear A130
     by_cases c14 : t723 > t726
     ·
      rw [if_pos c14] at H
      have c14b0 : decide (t726 < t723) = true := decide_eq_true c14
      clear c14;replace H := Option.bind_eq_some_iff.mp H
      obtain ⟨t727, A150, H⟩ := H
      replace H : (some (t727, 0)) = some (r1, r2) := H
      have A15 := Aside0.mk A150;clear A150
      simp only [Option.some.injEq, Prod.mk.injEq] at H
      obtain ⟨rfl, rfl⟩ := H
      go_wp2_with (first | ((with_reducible refine gate_callee (f := 120) rfl ?_); refine goesL_ (some 27) rfl rfl Try.func120 (by kernel_rfl) rfl #[.int .i64 a0] rfl (by (try simp only [List.map_toArray, List.map_cons, List.map_nil]); first | done | rfl | (simp only [List.length_drop, List.length_take]; rfl)) ?_; (with_reducible refine (date_civil.calls kj3 a0 t721 t722 t723 _ A9.out).mono ?_); rintro e w' ⟨rfl, ⟨nd, rfl⟩⟩; refine ⟨_, rfl, ?_⟩) | ((with_reducible refine gate_callee (f := 122) rfl ?_); refine goesL_ (some 34) rfl rfl Try.func122 (by kernel_rfl) rfl #[.int .i64 t721, .int .i64 t722] rfl (by (try simp only [List.map_toArray, List.map_cons, List.map_nil]); first | done | rfl | (simp only [List.length_drop, List.length_take]; rfl)) ?_; (with_reducible refine (date_length.calls t721 t722 t724 _ A10.out).mono ?_); rintro e w' ⟨rfl, ⟨nd, rfl⟩⟩; refine ⟨_, rfl, ?_⟩) | ((with_reducible refine gate_callee (f := 121) rfl ?_); refine goesL_ (some 50) rfl rfl Try.func121 (by kernel_rfl) rfl #[.int .i64 (wrap64 (Int.tdiv (wrap64 ((wrap64 ((wrap64 ((wrap64 (12 * t721)) + t722)) - 1)) + a1)) 12)), .int .i64 (wrap64 ((Int.tmod (wrap64 ((wrap64 ((wrap64 ((wrap64 (12 * t721)) + t722)) - 1)) + a1)) 12) + 1))] rfl (by (try simp only [List.map_toArray, List.map_cons, List.map_nil]); first | done | rfl | (simp only [List.length_drop, List.length_take]; rfl)) ?_; (with_reducible refine (date_month.calls (wrap64 (Int.tdiv (wrap64 ((wrap64 ((wrap64 ((wrap64 (12 * t721)) + t722)) - 1)) + a1)) 12)) (wrap64 ((Int.tmod (wrap64 ((wrap64 ((wrap64 ((wrap64 (12 * t721)) + t722)) - 1)) + a1)) 12) + 1)) true _ A11.out).mono ?_); rintro e w' ⟨rfl, ⟨nd, rfl⟩⟩; refine ⟨_, rfl, ?_⟩) | ((with_reducible refine gate_callee (f := 122) rfl ?_); refine goesL_ (some 54) rfl rfl Try.func122 (by kernel_rfl) rfl #[.int .i64 (wrap64 (Int.tdiv (wrap64 ((wrap64 ((wrap64 ((wrap64 (12 * t721)) + t722)) - 1)) + a1)) 12)), .int .i64 (wrap64 ((Int.tmod (wrap64 ((wrap64 ((wrap64 ((wrap64 (12 * t721)) + t722)) - 1)) + a1)) 12) + 1))] rfl (by (try simp only [List.map_toArray, List.map_cons, List.map_nil]); first | done | rfl | (simp only [List.length_drop, List.length_take]; rfl)) ?_; (with_reducible refine (date_length.calls (wrap64 (Int.tdiv (wrap64 ((wrap64 ((wrap64 ((wrap64 (12 * t721)) + t722)) - 1)) + a1)) 12)) (wrap64 ((Int.tmod (wrap64 ((wrap64 ((wrap64 ((wrap64 (12 * t721)) + t722)) - 1)) + a1)) 12) + 1)) t726 _ A13.out).mono ?_); rintro e w' ⟨rfl, ⟨nd, rfl⟩⟩; refine ⟨_, rfl, ?_⟩) | ((with_reducible refine gate_callee (f := 123) rfl ?_); refine goesL_ (some 68) rfl rfl Try.func123 (by kernel_rfl) rfl #[.int .i64 (wrap64 (Int.tdiv (wrap64 ((wrap64 ((wrap64 ((wrap64 (12 * t721)) + t722)) - 1)) + a1)) 12)), .int .i64 (wrap64 ((Int.tmod (wrap64 ((wrap64 ((wrap64 ((wrap64 (12 * t721)) + t722)) - 1)) + a1)) 12) + 1)), .int .i64 t726] rfl (by (try simp only [List.map_toArray, List.map_cons, List.map_nil]); first | done | rfl | (simp only [List.length_drop, List.length_take]; rfl)) ?_; (with_reducible refine (date_day.calls kj3 (wrap64 (Int.tdiv (wrap64 ((wrap64 ((wrap64 ((wrap64 (12 * t721)) + t722)) - 1)) + a1)) 12)) (wrap64 ((Int.tmod (wrap64 ((wrap64 ((wrap64 ((wrap64 (12 * t721)) + t722)) - 1)) + a1)) 12) + 1)) t726 t727 _ A15.out).mono ?_); rintro e w' ⟨rfl, ⟨nd, rfl⟩⟩; refine ⟨_, rfl, ?_⟩))
      go_ret2
      exact ⟨by first | rfl | (simp; done) | (simp [*]; done), by repeat (first | exact Drawn0.refl _ | apply Drawn0.step)⟩
     ·
      rw [if_neg c14] at H
      have c14b0 : decide (t726 < t723) = false := decide_eq_false c14
      clear c14
      by_cases c16 : a2 = true
      ·
       subst c16
       have H1 : (if t723 = t724 then ((date_day.f kj3 (wrap64 (Int.tdiv (wrap64 ((wrap64 ((wrap64 ((wrap64 (12 * t721)) + t722)) - 1)) + a1)) 12)) (wrap64 ((Int.tmod (wrap64 ((wrap64 ((wrap64 ((wrap64 (12 * t721)) + t722)) - 1)) + a1)) 12) + 1)) t726).bind fun t728 => (some (t728, 0))) else ((date_day.f kj3 (wrap64 (Int.tdiv (wrap64 ((wrap64 ((wrap64 ((wrap64 (12 * t721)) + t722)) - 1)) + a1)) 12)) (wrap64 ((Int.tmod (wrap64 ((wrap64 ((wrap64 ((wrap64 (12 * t721)) + t722)) - 1)) + a1)) 12) + 1)) t723).bind fun t729 => (some (t729, 0)))) = some (r1, r2) := by rw [if_pos rfl] at H; exact H
       clear H;have H := H1;clear H1
       by_cases c17 : t723 = t724
       ·
        rw [if_pos c17] at H
        have c17b0 : (t723 == t724) = true := beq_iff_eq.mpr c17
        have c17b1 : (t723 != t724) = false := bne_eq_false_iff_eq.mpr c17
        clear c17;replace H := Option.bind_eq_some_iff.mp H
        obtain ⟨t728, A180, H⟩ := H
        replace H : (some (t728, 0)) = some (r1, r2) := H
        have A18 := Aside0.mk A180;clear A180
        simp only [Option.some.injEq, Prod.mk.injEq] at H
        obtain ⟨rfl, rfl⟩ := H
        go_wp2_with (first | ((with_reducible refine gate_callee (f := 120) rfl ?_); refine goesL_ (some 27) rfl rfl Try.func120 (by kernel_rfl) rfl #[.int .i64 a0] rfl (by (try simp only [List.map_toArray, List.map_cons, List.map_nil]); first | done | rfl | (simp only [List.length_drop, List.length_take]; rfl)) ?_; (with_reducible refine (date_civil.calls kj3 a0 t721 t722 t723 _ A9.out).mono ?_); rintro e w' ⟨rfl, ⟨nd, rfl⟩⟩; refine ⟨_, rfl, ?_⟩) | ((with_reducible refine gate_callee (f := 122) rfl ?_); refine goesL_ (some 34) rfl rfl Try.func122 (by kernel_rfl) rfl #[.int .i64 t721, .int .i64 t722] rfl (by (try simp only [List.map_toArray, List.map_cons, List.map_nil]); first | done | rfl | (simp only [List.length_drop, List.length_take]; rfl)) ?_; (with_reducible refine (date_length.calls t721 t722 t724 _ A10.out).mono ?_); rintro e w' ⟨rfl, ⟨nd, rfl⟩⟩; refine ⟨_, rfl, ?_⟩) | ((with_reducible refine gate_callee (f := 121) rfl ?_); refine goesL_ (some 50) rfl rfl Try.func121 (by kernel_rfl) rfl #[.int .i64 (wrap64 (Int.tdiv (wrap64 ((wrap64 ((wrap64 ((wrap64 (12 * t721)) + t722)) - 1)) + a1)) 12)), .int .i64 (wrap64 ((Int.tmod (wrap64 ((wrap64 ((wrap64 ((wrap64 (12 * t721)) + t722)) - 1)) + a1)) 12) + 1))] rfl (by (try simp only [List.map_toArray, List.map_cons, List.map_nil]); first | done | rfl | (simp only [List.length_drop, List.length_take]; rfl)) ?_; (with_reducible refine (date_month.calls (wrap64 (Int.tdiv (wrap64 ((wrap64 ((wrap64 ((wrap64 (12 * t721)) + t722)) - 1)) + a1)) 12)) (wrap64 ((Int.tmod (wrap64 ((wrap64 ((wrap64 ((wrap64 (12 * t721)) + t722)) - 1)) + a1)) 12) + 1)) true _ A11.out).mono ?_); rintro e w' ⟨rfl, ⟨nd, rfl⟩⟩; refine ⟨_, rfl, ?_⟩) | ((with_reducible refine gate_callee (f := 122) rfl ?_); refine goesL_ (some 54) rfl rfl Try.func122 (by kernel_rfl) rfl #[.int .i64 (wrap64 (Int.tdiv (wrap64 ((wrap64 ((wrap64 ((wrap64 (12 * t721)) + t722)) - 1)) + a1)) 12)), .int .i64 (wrap64 ((Int.tmod (wrap64 ((wrap64 ((wrap64 ((wrap64 (12 * t721)) + t722)) - 1)) + a1)) 12) + 1))] rfl (by (try simp only [List.map_toArray, List.map_cons, List.map_nil]); first | done | rfl | (simp only [List.length_drop, List.length_take]; rfl)) ?_; (with_reducible refine (date_length.calls (wrap64 (Int.tdiv (wrap64 ((wrap64 ((wrap64 ((wrap64 (12 * t721)) + t722)) - 1)) + a1)) 12)) (wrap64 ((Int.tmod (wrap64 ((wrap64 ((wrap64 ((wrap64 (12 * t721)) + t722)) - 1)) + a1)) 12) + 1)) t726 _ A13.out).mono ?_); rintro e w' ⟨rfl, ⟨nd, rfl⟩⟩; refine ⟨_, rfl, ?_⟩) | ((with_reducible refine gate_callee (f := 123) rfl ?_); refine goesL_ (some 68) rfl rfl Try.func123 (by kernel_rfl) rfl #[.int .i64 (wrap64 (Int.tdiv (wrap64 ((wrap64 ((wrap64 ((wrap64 (12 * t721)) + t722)) - 1)) + a1)) 12)), .int .i64 (wrap64 ((Int.tmod (wrap64 ((wrap64 ((wrap64 ((wrap64 (12 * t721)) + t722)) - 1)) + a1)) 12) + 1)), .int .i64 t726] rfl (by (try simp only [List.map_toArray, List.map_cons, List.map_nil]); first | done | rfl | (simp only [List.length_drop, List.length_take]; rfl)) ?_; (with_reducible refine (date_day.calls kj3 (wrap64 (Int.tdiv (wrap64 ((wrap64 ((wrap64 ((wrap64 (12 * t721)) + t722)) - 1)) + a1)) 12)) (wrap64 ((Int.tmod (wrap64 ((wrap64 ((wrap64 ((wrap64 (12 * t721)) + t722)) - 1)) + a1)) 12) + 1)) t726 t728 _ A18.out).mono ?_); rintro e w' ⟨rfl, ⟨nd, rfl⟩⟩; refine ⟨_, rfl, ?_⟩))
        go_ret2
        exact ⟨by first | rfl | (simp; done) | (simp [*]; done), by repeat (first | exact Drawn0.refl _ | apply Drawn0.step)⟩
       ·
        rw [if_neg c17] at H
        have c17b0 : (t723 == t724) = false := beq_eq_false_iff_ne.mpr c17
        have c17b1 : (t723 != t724) = true := bne_iff_ne.mpr c17
        replace H := Option.bind_eq_some_iff.mp H
        obtain ⟨t729, A190, H⟩ := H
        replace H : (some (t729, 0)) = some (r1, r2) := H
        have A19 := Aside0.mk A190;clear A190
        simp only [Option.some.injEq, Prod.mk.injEq] at H
        obtain ⟨rfl, rfl⟩ := H
        go_wp2_with (first | ((with_reducible refine gate_callee (f := 120) rfl ?_); refine goesL_ (some 27) rfl rfl Try.func120 (by kernel_rfl) rfl #[.int .i64 a0] rfl (by (try simp only [List.map_toArray, List.map_cons, List.map_nil]); first | done | rfl | (simp only [List.length_drop, List.length_take]; rfl)) ?_; (with_reducible refine (date_civil.calls kj3 a0 t721 t722 t723 _ A9.out).mono ?_); rintro e w' ⟨rfl, ⟨nd, rfl⟩⟩; refine ⟨_, rfl, ?_⟩) | ((with_reducible refine gate_callee (f := 122) rfl ?_); refine goesL_ (some 34) rfl rfl Try.func122 (by kernel_rfl) rfl #[.int .i64 t721, .int .i64 t722] rfl (by (try simp only [List.map_toArray, List.map_cons, List.map_nil]); first | done | rfl | (simp only [List.length_drop, List.length_take]; rfl)) ?_; (with_reducible refine (date_length.calls t721 t722 t724 _ A10.out).mono ?_); rintro e w' ⟨rfl, ⟨nd, rfl⟩⟩; refine ⟨_, rfl, ?_⟩) | ((with_reducible refine gate_callee (f := 121) rfl ?_); refine goesL_ (some 50) rfl rfl Try.func121 (by kernel_rfl) rfl #[.int .i64 (wrap64 (Int.tdiv (wrap64 ((wrap64 ((wrap64 ((wrap64 (12 * t721)) + t722)) - 1)) + a1)) 12)), .int .i64 (wrap64 ((Int.tmod (wrap64 ((wrap64 ((wrap64 ((wrap64 (12 * t721)) + t722)) - 1)) + a1)) 12) + 1))] rfl (by (try simp only [List.map_toArray, List.map_cons, List.map_nil]); first | done | rfl | (simp only [List.length_drop, List.length_take]; rfl)) ?_; (with_reducible refine (date_month.calls (wrap64 (Int.tdiv (wrap64 ((wrap64 ((wrap64 ((wrap64 (12 * t721)) + t722)) - 1)) + a1)) 12)) (wrap64 ((Int.tmod (wrap64 ((wrap64 ((wrap64 ((wrap64 (12 * t721)) + t722)) - 1)) + a1)) 12) + 1)) true _ A11.out).mono ?_); rintro e w' ⟨rfl, ⟨nd, rfl⟩⟩; refine ⟨_, rfl, ?_⟩) | ((with_reducible refine gate_callee (f := 122) rfl ?_); refine goesL_ (some 54) rfl rfl Try.func122 (by kernel_rfl) rfl #[.int .i64 (wrap64 (Int.tdiv (wrap64 ((wrap64 ((wrap64 ((wrap64 (12 * t721)) + t722)) - 1)) + a1)) 12)), .int .i64 (wrap64 ((Int.tmod (wrap64 ((wrap64 ((wrap64 ((wrap64 (12 * t721)) + t722)) - 1)) + a1)) 12) + 1))] rfl (by (try simp only [List.map_toArray, List.map_cons, List.map_nil]); first | done | rfl | (simp only [List.length_drop, List.length_take]; rfl)) ?_; (with_reducible refine (date_length.calls (wrap64 (Int.tdiv (wrap64 ((wrap64 ((wrap64 ((wrap64 (12 * t721)) + t722)) - 1)) + a1)) 12)) (wrap64 ((Int.tmod (wrap64 ((wrap64 ((wrap64 ((wrap64 (12 * t721)) + t722)) - 1)) + a1)) 12) + 1)) t726 _ A13.out).mono ?_); rintro e w' ⟨rfl, ⟨nd, rfl⟩⟩; refine ⟨_, rfl, ?_⟩) | ((with_reducible refine gate_callee (f := 123) rfl ?_); refine goesL_ (some 68) rfl rfl Try.func123 (by kernel_rfl) rfl #[.int .i64 (wrap64 (Int.tdiv (wrap64 ((wrap64 ((wrap64 ((wrap64 (12 * t721)) + t722)) - 1)) + a1)) 12)), .int .i64 (wrap64 ((Int.tmod (wrap64 ((wrap64 ((wrap64 ((wrap64 (12 * t721)) + t722)) - 1)) + a1)) 12) + 1)), .int .i64 t723] rfl (by (try simp only [List.map_toArray, List.map_cons, List.map_nil]); first | done | rfl | (simp only [List.length_drop, List.length_take]; rfl)) ?_; (with_reducible refine (date_day.calls kj3 (wrap64 (Int.tdiv (wrap64 ((wrap64 ((wrap64 ((wrap64 (12 * t721)) + t722)) - 1)) + a1)) 12)) (wrap64 ((Int.tmod (wrap64 ((wrap64 ((wrap64 ((wrap64 (12 * t721)) + t722)) - 1)) + a1)) 12) + 1)) t723 t729 _ A19.out).mono ?_); rintro e w' ⟨rfl, ⟨nd, rfl⟩⟩; refine ⟨_, rfl, ?_⟩))
        go_ret2
        exact ⟨by first | rfl | (simp; done) | (simp [*]; done), by repeat (first | exact Drawn0.refl _ | apply Drawn0.step)⟩
      ·
       replace c16 := Bool.eq_false_iff.mpr c16;subst c16
       have H1 : ((date_day.f kj3 (wrap64 (Int.tdiv (wrap64 ((wrap64 ((wrap64 ((wrap64 (12 * t721)) + t722)) - 1)) + a1)) 12)) (wrap64 ((Int.tmod (wrap64 ((wrap64 ((wrap64 ((wrap64 (12 * t721)) + t722)) - 1)) + a1)) 12) + 1)) t723).bind fun t730 => (some (t730, 0))) = some (r1, r2) := by rw [if_neg (show ¬ (false = true) by decide)] at H; exact H
       clear H;have H := H1;clear H1;replace H := Option.bind_eq_some_iff.mp H
       obtain ⟨t730, A200, H⟩ := H
       replace H : (some (t730, 0)) = some (r1, r2) := H
       have A20 := Aside0.mk A200;clear A200
       simp only [Option.some.injEq, Prod.mk.injEq] at H
       obtain ⟨rfl, rfl⟩ := H
       go_wp2_with (first | ((with_reducible refine gate_callee (f := 120) rfl ?_); refine goesL_ (some 27) rfl rfl Try.func120 (by kernel_rfl) rfl #[.int .i64 a0] rfl (by (try simp only [List.map_toArray, List.map_cons, List.map_nil]); first | done | rfl | (simp only [List.length_drop, List.length_take]; rfl)) ?_; (with_reducible refine (date_civil.calls kj3 a0 t721 t722 t723 _ A9.out).mono ?_); rintro e w' ⟨rfl, ⟨nd, rfl⟩⟩; refine ⟨_, rfl, ?_⟩) | ((with_reducible refine gate_callee (f := 122) rfl ?_); refine goesL_ (some 34) rfl rfl Try.func122 (by kernel_rfl) rfl #[.int .i64 t721, .int .i64 t722] rfl (by (try simp only [List.map_toArray, List.map_cons, List.map_nil]); first | done | rfl | (simp only [List.length_drop, List.length_take]; rfl)) ?_; (with_reducible refine (date_length.calls t721 t722 t724 _ A10.out).mono ?_); rintro e w' ⟨rfl, ⟨nd, rfl⟩⟩; refine ⟨_, rfl, ?_⟩) | ((with_reducible refine gate_callee (f := 121) rfl ?_); refine goesL_ (some 50) rfl rfl Try.func121 (by kernel_rfl) rfl #[.int .i64 (wrap64 (Int.tdiv (wrap64 ((wrap64 ((wrap64 ((wrap64 (12 * t721)) + t722)) - 1)) + a1)) 12)), .int .i64 (wrap64 ((Int.tmod (wrap64 ((wrap64 ((wrap64 ((wrap64 (12 * t721)) + t722)) - 1)) + a1)) 12) + 1))] rfl (by (try simp only [List.map_toArray, List.map_cons, List.map_nil]); first | done | rfl | (simp only [List.length_drop, List.length_take]; rfl)) ?_; (with_reducible refine (date_month.calls (wrap64 (Int.tdiv (wrap64 ((wrap64 ((wrap64 ((wrap64 (12 * t721)) + t722)) - 1)) + a1)) 12)) (wrap64 ((Int.tmod (wrap64 ((wrap64 ((wrap64 ((wrap64 (12 * t721)) + t722)) - 1)) + a1)) 12) + 1)) true _ A11.out).mono ?_); rintro e w' ⟨rfl, ⟨nd, rfl⟩⟩; refine ⟨_, rfl, ?_⟩) | ((with_reducible refine gate_callee (f := 122) rfl ?_); refine goesL_ (some 54) rfl rfl Try.func122 (by kernel_rfl) rfl #[.int .i64 (wrap64 (Int.tdiv (wrap64 ((wrap64 ((wrap64 ((wrap64 (12 * t721)) + t722)) - 1)) + a1)) 12)), .int .i64 (wrap64 ((Int.tmod (wrap64 ((wrap64 ((wrap64 ((wrap64 (12 * t721)) + t722)) - 1)) + a1)) 12) + 1))] rfl (by (try simp only [List.map_toArray, List.map_cons, List.map_nil]); first | done | rfl | (simp only [List.length_drop, List.length_take]; rfl)) ?_; (with_reducible refine (date_length.calls (wrap64 (Int.tdiv (wrap64 ((wrap64 ((wrap64 ((wrap64 (12 * t721)) + t722)) - 1)) + a1)) 12)) (wrap64 ((Int.tmod (wrap64 ((wrap64 ((wrap64 ((wrap64 (12 * t721)) + t722)) - 1)) + a1)) 12) + 1)) t726 _ A13.out).mono ?_); rintro e w' ⟨rfl, ⟨nd, rfl⟩⟩; refine ⟨_, rfl, ?_⟩) | ((with_reducible refine gate_callee (f := 123) rfl ?_); refine goesL_ (some 68) rfl rfl Try.func123 (by kernel_rfl) rfl #[.int .i64 (wrap64 (Int.tdiv (wrap64 ((wrap64 ((wrap64 ((wrap64 (12 * t721)) + t722)) - 1)) + a1)) 12)), .int .i64 (wrap64 ((Int.tmod (wrap64 ((wrap64 ((wrap64 ((wrap64 (12 * t721)) + t722)) - 1)) + a1)) 12) + 1)), .int .i64 t723] rfl (by (try simp only [List.map_toArray, List.map_cons, List.map_nil]); first | done | rfl | (simp only [List.length_drop, List.length_take]; rfl)) ?_; (with_reducible refine (date_day.calls kj3 (wrap64 (Int.tdiv (wrap64 ((wrap64 ((wrap64 ((wrap64 (12 * t721)) + t722)) - 1)) + a1)) 12)) (wrap64 ((Int.tmod (wrap64 ((wrap64 ((wrap64 ((wrap64 (12 * t721)) + t722)) - 1)) + a1)) 12) + 1)) t723 t730 _ A20.out).mono ?_); rintro e w' ⟨rfl, ⟨nd, rfl⟩⟩; refine ⟨_, rfl, ?_⟩))
       go_ret2
       exact ⟨by first | rfl | (simp; done) | (simp [*]; done), by repeat (first | exact Drawn0.refl _ | apply Drawn0.step)⟩
    ·
     replace c12 := Bool.eq_false_iff.mpr c12;subst c12
     have H1 : (some (0, 51)) = some (r1, r2) := by rw [if_neg (show ¬ (false = true) by decide)] at H; exact H
     clear H;have H := H1;clear H1
     simp only [Option.some.injEq, Prod.mk.injEq] at H
     obtain ⟨rfl, rfl⟩ := H
     go_wp2_with (first | ((with_reducible refine gate_callee (f := 120) rfl ?_); refine goesL_ (some 27) rfl rfl Try.func120 (by kernel_rfl) rfl #[.int .i64 a0] rfl (by (try simp only [List.map_toArray, List.map_cons, List.map_nil]); first | done | rfl | (simp only [List.length_drop, List.length_take]; rfl)) ?_; (with_reducible refine (date_civil.calls kj3 a0 t721 t722 t723 _ A9.out).mono ?_); rintro e w' ⟨rfl, ⟨nd, rfl⟩⟩; refine ⟨_, rfl, ?_⟩) | ((with_reducible refine gate_callee (f := 122) rfl ?_); refine goesL_ (some 34) rfl rfl Try.func122 (by kernel_rfl) rfl #[.int .i64 t721, .int .i64 t722] rfl (by (try simp only [List.map_toArray, List.map_cons, List.map_nil]); first | done | rfl | (simp only [List.length_drop, List.length_take]; rfl)) ?_; (with_reducible refine (date_length.calls t721 t722 t724 _ A10.out).mono ?_); rintro e w' ⟨rfl, ⟨nd, rfl⟩⟩; refine ⟨_, rfl, ?_⟩) | ((with_reducible refine gate_callee (f := 121) rfl ?_); refine goesL_ (some 50) rfl rfl Try.func121 (by kernel_rfl) rfl #[.int .i64 (wrap64 (Int.tdiv (wrap64 ((wrap64 ((wrap64 ((wrap64 (12 * t721)) + t722)) - 1)) + a1)) 12)), .int .i64 (wrap64 ((Int.tmod (wrap64 ((wrap64 ((wrap64 ((wrap64 (12 * t721)) + t722)) - 1)) + a1)) 12) + 1))] rfl (by (try simp only [List.map_toArray, List.map_cons, List.map_nil]); first | done | rfl | (simp only [List.length_drop, List.length_take]; rfl)) ?_; (with_reducible refine (date_month.calls (wrap64 (Int.tdiv (wrap64 ((wrap64 ((wrap64 ((wrap64 (12 * t721)) + t722)) - 1)) + a1)) 12)) (wrap64 ((Int.tmod (wrap64 ((wrap64 ((wrap64 ((wrap64 (12 * t721)) + t722)) - 1)) + a1)) 12) + 1)) false _ A11.out).mono ?_); rintro e w' ⟨rfl, ⟨nd, rfl⟩⟩; refine ⟨_, rfl, ?_⟩))
     go_ret2
     exact ⟨by first | rfl | (simp; done) | (simp [*]; done), by repeat (first | exact Drawn0.refl _ | apply Drawn0.step)⟩
def date_Third.f (k : Nat) (a0 : Int) (a1 : Int) : Option (Int × Int) := (date_month.f a0 a1).bind fun t731 => (if t731 = true then ((date_day.f k a0 a1 15).bind fun t732 => (some (wrap64 (t732 + (Int.tmod (wrap64 (9 - (Int.tmod t732 7))) 7)), 0))) else (some (0, 50)))
theorem date_Third.mono : ∀ a0 a1 k, LeO (date_Third.f k a0 a1) (date_Third.f (k + 1) a0 a1) := by
 intro a0 a1 k
 unfold date_Third.f
 repeat' first
   | (with_reducible exact date_day.mono _ _ _ _)
   | (with_reducible exact LeO.refl _)
   | (with_reducible exact LeO.none _)
   | (with_reducible refine LeO.ite ?_ ?_)
   | (with_reducible refine LeO.bind ?_ (fun _ => ?_))
   | exact date_day.mono _ _ _ _
   | exact LeO.none _
   | refine LeO.ite ?_ ?_
   | refine LeO.bind ?_ (fun _ => ?_)
set_option maxHeartbeats 8000000 in
set_option maxRecDepth 100000 in
theorem date_Third.calls (k : Nat) (a0 : Int) (a1 : Int) (r1 : Int) (r2 : Int) (w : World) (h : date_Third.f k a0 a1 = some (r1, r2)) :
  Calls Try.prog 114 #[.int .i64 a0, .int .i64 a1] w fun e w' => e = .returned (.tuple #[.int .i64 r1, .int .i64 r2]) ∧ Drawn0 w w' := by
 have H : ((date_month.f a0 a1).bind fun t731 => (if t731 = true then ((date_day.f k a0 a1 15).bind fun t732 => (some (wrap64 (t732 + (Int.tmod (wrap64 (9 - (Int.tmod t732 7))) 7)), 0))) else (some (0, 50)))) = some (r1, r2) := h
 clear h;replace H := Option.bind_eq_some_iff.mp H
 obtain ⟨t731, A30, H⟩ := H
 replace H : (if t731 = true then ((date_day.f k a0 a1 15).bind fun t732 => (some (wrap64 (t732 + (Int.tmod (wrap64 (9 - (Int.tmod t732 7))) 7)), 0))) else (some (0, 50))) = some (r1, r2) := H
 have A3 := Aside0.mk A30;clear A30
 by_cases c4 : t731 = true
 ·
  subst c4
  have H1 : ((date_day.f k a0 a1 15).bind fun t732 => (some (wrap64 (t732 + (Int.tmod (wrap64 (9 - (Int.tmod t732 7))) 7)), 0))) = some (r1, r2) := by rw [if_pos rfl] at H; exact H
  clear H;have H := H1;clear H1;replace H := Option.bind_eq_some_iff.mp H
  obtain ⟨t732, A50, H⟩ := H
  replace H : (some (wrap64 (t732 + (Int.tmod (wrap64 (9 - (Int.tmod t732 7))) 7)), 0)) = some (r1, r2) := H
  have A5 := Aside0.mk A50;clear A50
  simp only [Option.some.injEq, Prod.mk.injEq] at H
  obtain ⟨rfl, rfl⟩ := H
  go_enter Try.func114, Try.ntmps114
  go_wp2_with (first | ((with_reducible refine gate_callee (f := 121) rfl ?_); refine goesL_ (some 9) rfl rfl Try.func121 (by kernel_rfl) rfl #[.int .i64 a0, .int .i64 a1] rfl (by (try simp only [List.map_toArray, List.map_cons, List.map_nil]); first | done | rfl | (simp only [List.length_drop, List.length_take]; rfl)) ?_; (with_reducible refine (date_month.calls a0 a1 true _ A3.out).mono ?_); rintro e w' ⟨rfl, ⟨nd, rfl⟩⟩; refine ⟨_, rfl, ?_⟩) | ((with_reducible refine gate_callee (f := 123) rfl ?_); refine goesL_ (some 13) rfl rfl Try.func123 (by kernel_rfl) rfl #[.int .i64 a0, .int .i64 a1, .int .i64 15] rfl (by (try simp only [List.map_toArray, List.map_cons, List.map_nil]); first | done | rfl | (simp only [List.length_drop, List.length_take]; rfl)) ?_; (with_reducible refine (date_day.calls k a0 a1 15 t732 _ A5.out).mono ?_); rintro e w' ⟨rfl, ⟨nd, rfl⟩⟩; refine ⟨_, rfl, ?_⟩))
  go_ret2
  exact ⟨by first | rfl | (simp; done) | (simp [*]; done), by repeat (first | exact Drawn0.refl _ | apply Drawn0.step)⟩
 ·
  replace c4 := Bool.eq_false_iff.mpr c4;subst c4
  have H1 : (some (0, 50)) = some (r1, r2) := by rw [if_neg (show ¬ (false = true) by decide)] at H; exact H
  clear H;have H := H1;clear H1
  simp only [Option.some.injEq, Prod.mk.injEq] at H
  obtain ⟨rfl, rfl⟩ := H
  go_enter Try.func114, Try.ntmps114
  go_wp2_with (first | ((with_reducible refine gate_callee (f := 121) rfl ?_); refine goesL_ (some 9) rfl rfl Try.func121 (by kernel_rfl) rfl #[.int .i64 a0, .int .i64 a1] rfl (by (try simp only [List.map_toArray, List.map_cons, List.map_nil]); first | done | rfl | (simp only [List.length_drop, List.length_take]; rfl)) ?_; (with_reducible refine (date_month.calls a0 a1 false _ A3.out).mono ?_); rintro e w' ⟨rfl, ⟨nd, rfl⟩⟩; refine ⟨_, rfl, ?_⟩))
  go_ret2
  exact ⟨by first | rfl | (simp; done) | (simp [*]; done), by repeat (first | exact Drawn0.refl _ | apply Drawn0.step)⟩
end Go.Proofs.Ytoncignjcgjhhaa.Q
namespace Go.Proofs.Ytoncignjcgjhhaa.M
def mAt (n k : Int) : Int := 12 * civY n + civM n - 1 + k
def monthsDay (n k : Int) (e : Bool) : Int :=
  if civD n > mlen (mAt n k / 12) (mAt n k % 12 + 1) then mlen (mAt n k / 12) (mAt n k % 12 + 1)
  else if e = true ∧ civD n = mlen (civY n) (civM n) then mlen (mAt n k / 12) (mAt n k % 12 + 1) else civD n
def monthsOk (n k : Int) : Prop := -4000 ≤ k ∧ k ≤ 4000 ∧ 22800 ≤ mAt n k ∧ mAt n k ≤ 26399
instance monthsOkDec (n k : Int) : Decidable (monthsOk n k) := inferInstanceAs (Decidable (_ ∧ _))
def months (n k : Int) (e : Bool) : Int × Int :=
  if 0 ≤ n ∧ n ≤ 109572 then (if monthsOk n k then (dayOf (mAt n k / 12) (mAt n k % 12 + 1) (monthsDay n k e), 0) else (0, 51)) else (0, 51)
def third (y m : Int) : Int := dayOf y m 15 + (9 - dayOf y m 15 % 7) % 7
theorem mAt_rng {n k : Int} (h : monthsOk n k) : 1900 ≤ mAt n k / 12 ∧ mAt n k / 12 ≤ 2199 ∧ 1 ≤ mAt n k % 12 + 1 ∧ mAt n k % 12 + 1 ≤ 12 := by
  unfold monthsOk at h; omega
theorem monthsDay_rng {n k : Int} (e : Bool) (hn : 0 ≤ n ∧ n ≤ 109572) : 1 ≤ monthsDay n k e ∧ monthsDay n k e ≤ mlen (mAt n k / 12) (mAt n k % 12 + 1) := by
 have h := (civ_spec n hn.1 hn.2).1
 have l := mlen_rng (mAt n k / 12) (mAt n k % 12 + 1)
 unfold isDate at h
 unfold monthsDay
 split
 ·
  omega
 ·
  split <;> omega
theorem monthsDate {n k : Int} (e : Bool) (hn : 0 ≤ n ∧ n ≤ 109572) (h : monthsOk n k) : isDate (mAt n k / 12) (mAt n k % 12 + 1) (monthsDay n k e) := by
  have a := mAt_rng h; have b := monthsDay_rng e hn (k := k)
  exact ⟨a.1, a.2.1, a.2.2.1, a.2.2.2, b.1, b.2⟩
theorem d15 {y m : Int} (h : 1900 ≤ y ∧ y ≤ 2199 ∧ 1 ≤ m ∧ m ≤ 12) : isDate y m 15 := by
  have := mlen_rng y m; unfold isDate; omega
end Go.Proofs.Ytoncignjcgjhhaa.M
namespace Go.Proofs.Ytoncignjcgjhhaa.L
open Go.RowKit Go.Proofs.YtoncignjcgjhhaaW.PrintWords Go.Proofs.YtoncignjcgjhhaaW.PrintLast Go.Proofs.YtoncignjcgjhhaaW.PrintMore
open Go.Proofs.Ytoncignjcgjhhaa.Q
theorem dmonth (y m : Int) : date_month.f y m = some (decide (1900 ≤ y ∧ y ≤ 2199 ∧ 1 ≤ m ∧ m ≤ 12)) := by
 unfold date_month.f
 repeat' split
 all_goals first | (congr 1; rw [decide_eq_decide]; omega) | (congr 1; symm; rw [decide_eq_false_iff_not]; omega)
theorem Months_j0t (n k : Int) (e : Bool) : Ev (fun q => date_Months.j0 q n k e true) ((0, 51) : Int × Int) :=
  Ev.step (f := fun _ => some ((0, 51) : Int × Int)) (fun q => by rw [date_Months.j0, if_pos rfl]) (Ev.now _)
theorem Months_j0f (n k : Int) (e : Bool) (hn : 0 ≤ n ∧ n ≤ 109572) (h0 : -4000 ≤ k) (h1 : k ≤ 4000) :
  Ev (fun q => date_Months.j0 q n k e false) (if M.monthsOk n k then (M.dayOf (M.mAt n k / 12) (M.mAt n k % 12 + 1) (M.monthsDay n k e), 0) else ((0, 51) : Int × Int)) := by
 have hs := (M.civ_spec n hn.1 hn.2).1
 unfold M.isDate at hs
 have hm : 0 ≤ M.mAt n k := by unfold M.mAt; omega
 have hm2 : M.mAt n k ≤ 40000 := by unfold M.mAt; omega
 have e1 : wrap64 (wrap64 (wrap64 (wrap64 (12 * M.civY n) + M.civM n) - 1) + k) = M.mAt n k := by
  unfold M.mAt
  rw [w64 (x := 12 * M.civY n) (by omega) (by omega), w64 (x := 12 * M.civY n + M.civM n) (by omega) (by omega), w64 (x := 12 * M.civY n + M.civM n - 1) (by omega) (by omega), w64 (by omega) (by omega)]
 have e2 : wrap64 (Int.tdiv (M.mAt n k) 12) = M.mAt n k / 12 := by rw [td hm, w64 (by omega) (by omega)]
 have e3 : wrap64 (Int.tmod (M.mAt n k) 12 + 1) = M.mAt n k % 12 + 1 := by rw [tm hm, w64 (by omega) (by omega)]
 have hstep : ∀ q, date_Months.j0 (q + 1) n k e false = (date_civil.f q n).bind fun (bt721 : Int × Int × Int) => _ := fun q => by rw [date_Months.j0, if_neg (by decide)]
 refine Ev.step hstep (Ev.bind (civil n hn.1 hn.2) ?_)
 clear hstep
 have hl := M.mlen_rng (M.mAt n k / 12) (M.mAt n k % 12 + 1)
 by_cases ho : M.monthsOk n k
 ·
  rw [if_pos ho]
  have hr := M.mAt_rng ho
  have hd : ∀ d : Int, 1 ≤ d → d ≤ 31 → Ev (fun q => (date_day.f q (M.mAt n k / 12) (M.mAt n k % 12 + 1) d).bind fun t => some (t, (0 : Int))) (M.dayOf (M.mAt n k / 12) (M.mAt n k % 12 + 1) d, 0) :=
   fun d a b => Ev.bind (day _ _ d (by omega) (by omega) (by omega) (by omega) (by omega) (by omega)) (Ev.now _)
  refine Ev.congr (fun q => by simp only [e1, e2, e3, length, Option.bind_some, dmonth]; rw [decide_eq_true hr, if_pos rfl]) ?_
  unfold M.monthsDay
  by_cases c1 : M.civD n > M.mlen (M.mAt n k / 12) (M.mAt n k % 12 + 1)
  ·
   rw [if_pos c1]
   exact Ev.congr (fun q => if_pos c1) (hd _ (by omega) (by omega))
  ·
   rw [if_neg c1]
   refine Ev.congr (fun q => if_neg c1) ?_
   cases e with
   | true =>
    refine Ev.congr (fun q => if_pos rfl) ?_
    by_cases c2 : M.civD n = M.mlen (M.civY n) (M.civM n)
    ·
     rw [if_pos ⟨rfl, c2⟩]
     exact Ev.congr (fun q => if_pos c2) (hd _ (by omega) (by omega))
    ·
     rw [if_neg (fun h => c2 h.2)]
     exact Ev.congr (fun q => if_neg c2) (hd _ (by omega) (by omega))
   | false =>
    rw [if_neg (fun h => absurd h.1 (by decide))]
    exact Ev.congr (fun q => if_neg (by decide)) (hd _ (by omega) (by omega))
 ·
  rw [if_neg ho]
  refine Ev.congr (fun q => ?_) (Ev.now _)
  have hr : ¬ (1900 ≤ M.mAt n k / 12 ∧ M.mAt n k / 12 ≤ 2199 ∧ 1 ≤ M.mAt n k % 12 + 1 ∧ M.mAt n k % 12 + 1 ≤ 12) := by
   intro h; apply ho; unfold M.monthsOk; omega
  simp only [e1, e2, e3, length, Option.bind_some, dmonth]
  rw [decide_eq_false hr, if_neg (by decide)]
theorem Months (n k : Int) (e : Bool) : Ev (fun q => date_Months.f q n k e) (M.months n k e) := by
 unfold M.months
 refine Ev.congr (fun q => by unfold date_Months.f; rw [dis, Option.bind_some]) ?_
 by_cases hn : 0 ≤ n ∧ n ≤ 109572
 ·
  rw [if_pos hn]
  refine Ev.congr (fun q => by rw [decide_eq_true hn, if_pos rfl]) ?_
  by_cases h0 : k < -4000
  ·
   rw [if_neg (fun h => by have := h.1; omega)]
   exact Ev.congr (fun q => if_pos h0) (Months_j0t n k e)
  ·
   refine Ev.congr (fun q => if_neg h0) ?_
   by_cases h1 : k > 4000
   ·
    rw [if_neg (fun h => by have := h.2.1; omega)]
    exact Ev.congr (fun q => by rw [decide_eq_true h1]) (Months_j0t n k e)
   ·
    exact Ev.congr (fun q => by rw [decide_eq_false h1]) (Months_j0f n k e hn (by omega) (by omega))
 ·
  rw [if_neg hn]
  exact Ev.congr (fun q => by rw [decide_eq_false hn, if_neg (by decide)]) (Months_j0t n k e)
theorem Third (y m : Int) : Ev (fun q => date_Third.f q y m) (if 1900 ≤ y ∧ y ≤ 2199 ∧ 1 ≤ m ∧ m ≤ 12 then (M.third y m, 0) else ((0, 50) : Int × Int)) := by
 refine Ev.congr (fun q => by unfold date_Third.f; rw [dmonth, Option.bind_some]) ?_
 by_cases h : 1900 ≤ y ∧ y ≤ 2199 ∧ 1 ≤ m ∧ m ≤ 12
 ·
  rw [if_pos h]
  refine Ev.congr (fun q => by rw [decide_eq_true h, if_pos rfl]) (Ev.bind (day y m 15 (by omega) (by omega) (by omega) (by omega) (by omega) (by omega)) ?_)
  refine Ev.congr (fun q => ?_) (Ev.now _)
  have hr := M.day_rng (M.d15 h)
  unfold M.third
  rw [tm hr.1, w64 (x := 9 - M.dayOf y m 15 % 7) (by omega) (by omega), tm (a := 9 - M.dayOf y m 15 % 7) (by omega), w64 (by omega) (by omega)]
 ·
  rw [if_neg h]
  exact Ev.congr (fun q => by rw [decide_eq_false h, if_neg (by decide)]) (Ev.now _)
end Go.Proofs.Ytoncignjcgjhhaa.L
namespace Go.Proofs.Ytoncignjcgjhhaa.H
open Go.RowKit Go.Maps Go.Proofs.YtoncignjcgjhhaaW.PrintWords Go.Proofs.YtoncignjcgjhhaaW.PrintLast Go.Proofs.YtoncignjcgjhhaaW.PrintMore
open Go.Proofs.Ytoncignjcgjhhaa.Q (S63 k63 z63)
theorem law3 : Keyed Try.prog 3 := int_keyed Try.underlying3
theorem zero3 (w : World) : (zeroValue 3).run Try.prog w = .ok (.int .i64 0) w := by kernel_rfl
theorem wf_i64 {x : Int} (h : L.i64 x) : (Lit.int .i64 x).wf = true := by
 have hmin : IntKind.i64.min = -9223372036854775808 := rfl
 have hmax : IntKind.i64.max = 9223372036854775807 := rfl
 unfold L.i64 at h
 simp only [Lit.wf, Bool.and_eq_true, decide_eq_true_eq]
 omega
def b01 (b : Bool) : Int := if b = true then 1 else 0
def MapOk (w : World) (b n : Nat) (f : Int → Bool) : Prop :=
  ∃ D : DataW Unit, w.ownsMap Try.prog 3 (plainElem Try.prog 3) b n D ∧ IsMap D ∧ ∀ x, L.i64 x → D.atKey (.int .i64 x) (.lit (.int .i64 0)) = .lit (.int .i64 (b01 (f x)))
theorem MapOk.lt {w : World} {b n : Nat} {f : Int → Bool} (h : MapOk w b n f) : b < w.heap.size := by obtain ⟨D, h, _⟩ := h; exact h.lt
theorem MapOk.mono {w : World} {b n n' : Nat} {f : Int → Bool} (h : MapOk w b n f) (hn : n ≤ n') : MapOk w b n' f := by
  obtain ⟨D, h, r⟩ := h; exact ⟨D, h.mono hn, r⟩
theorem MapOk.kept {w w1 : World} {b n : Nat} {f : Int → Bool} {row : Option Nat} (h : MapOk w b n f) (hg : w.grownBy w1 row) (hne : some b ≠ row) : MapOk w1 b n f := by
  obtain ⟨D, h, r⟩ := h; exact ⟨D, h.kept hg hne, r⟩
theorem MapOk.made (w : World) : MapOk (w.alloc (.map #[] 0)) w.heap.size 0 (fun _ => false) :=
  ⟨.map [], World.ownsMap_made _ _ _ _, ⟨[], rfl⟩, fun _ _ => rfl⟩
theorem wp_look (w : World) {ops : Array Oper} {rest : List Oper} {o : Oper} {a : Act} {Q : Exit → Act → World → Prop} (hg : o.guard = none) (m x : Operand) (hop : o.op = Op.lookup 127 m x false)
  (b n : Nat) (f : Int → Bool) (hm : a.eval m = .map (some b)) (hown : MapOk w b n f) (key : Int) (hx : a.eval x = .int .i64 key) (hk : L.i64 key) (hK : wpList Try.prog ops Q rest (a.put o.dst (.int .i64 (b01 (f key)))) w) :
  wpList Try.prog ops Q (o :: rest) a w := by
 obtain ⟨D, hD, _, hf⟩ := hown
 refine wpList_lookup_own_int w hg m x 127 hop 3 3 .i64 law3 Try.underlying127 Try.underlying3 (zero3 w) b n D hm hD _ _ hx (keyOf_int_mk Try.underlying3 (wf_i64 hk)) ?_
 intro c hc _
 rw [hf key hk] at hc
 have e : b01 (f key) = c := by injection hc with hc; injection hc
 rw [← e]; exact hK
theorem wp_store (w : World) {ops : Array Oper} {rest : List Oper} {o : Oper} {a : Act} {Q : Exit → Act → World → Prop} (hg : o.guard = none) (m x v : Operand) (hop : o.op = Op.mapUpdate 127 m x v)
  (b n : Nat) (f : Int → Bool) (hm : a.eval m = .map (some b)) (hown : MapOk w b n f) (hn : n < maxLen) (key : Int) (hx : a.eval x = .int .i64 key) (hv : a.eval v = .int .i64 1) (hk : L.i64 key)
  (hK : ∀ w', MapOk w' b (n + 1) (fun y => f y || decide (y = key)) → w.grownBy w' (some b) → wpList Try.prog ops Q rest (a.put o.dst undef) w') :
  wpList Try.prog ops Q (o :: rest) a w := by
 obtain ⟨D, hD, hI, hf⟩ := hown
 refine wpList_mapUpdate_own w hg m x v 127 hop 3 3 law3 Try.underlying127 _ b n D hm hD hn _ _ _ hx hv (keyOf_int_mk Try.underlying3 (wf_i64 hk)) _ [] (plainElem_int Try.underlying3 (a := 1) (by decide)) ?_
 intro w' h' hgr
 refine hK w' ⟨_, h', hI.put _ _, fun y hy => ?_⟩ hgr
 by_cases e : y = key
 ·
  subst e
  rw [atKey_put_same (k := .int .i64 y) hI trivial]
  simp [b01]
 ·
  rw [atKey_put_other (k := .int .i64 key) (k' := .int .i64 y) (by intro h; injection h with h1 h2; exact e h2), hf y hy]
  simp [e]
structure Bk (w0 w : World) (bb md mb : Nat) (we : Int) (A : Option Addr) (c : Nat) (l : List S63) (n : Nat) (S f : Int → Bool) : Prop where
 bel : Below w0.heap.size w0 w
 blk : w.heap[bb]? = some (.cells #[.int .i64 we, .slice A l.length c, .map (some md), .map (some mb)] 129 (0, 0))
 gb : w0.heap.size ≤ bb
 gd : w0.heap.size ≤ md
 gm : w0.heap.size ≤ mb
 ne : md ≠ mb
 nd : bb ≠ md
 nm : bb ≠ mb
 dn : MapOk w md n S
 dy : MapOk w mb n f
section
variable {w0 w w1 : World} {bb md mb : Nat} {we : Int} {A : Option Addr} {c : Nat} {l : List S63} {n : Nat} {S f : Int → Bool}
theorem Bk.c0 (h : Bk w0 w bb md mb we A c l n S f) : w.cell? ⟨bb, 0, none⟩ = some (.int .i64 we) := (blk_cell h.blk 0).trans rfl
theorem Bk.c1 (h : Bk w0 w bb md mb we A c l n S f) : w.cell? ⟨bb, 1, none⟩ = some (.slice A l.length c) := (blk_cell h.blk 1).trans rfl
theorem Bk.c2 (h : Bk w0 w bb md mb we A c l n S f) : w.cell? ⟨bb, 2, none⟩ = some (.map (some md)) := (blk_cell h.blk 2).trans rfl
theorem Bk.c3 (h : Bk w0 w bb md mb we A c l n S f) : w.cell? ⟨bb, 3, none⟩ = some (.map (some mb)) := (blk_cell h.blk 3).trans rfl
theorem Bk.step (h : Bk w0 w bb md mb we A c l n S f) (hb : Below w.heap.size w w1) : Bk w0 w1 bb md mb we A c l n S f :=
  ⟨below_step h.bel hb, blk_below h.blk hb, h.gb, h.gd, h.gm, h.ne, h.nd, h.nm, h.dn.kept (grown_of_below hb none) (by simp), h.dy.kept (grown_of_below hb none) (by simp)⟩
theorem Bk.alloc (h : Bk w0 w bb md mb we A c l n S f) (o : Obj) : Bk w0 (w.alloc o) bb md mb we A c l n S f := h.step (below_alloc (Below.refl _ _) o)
theorem Bk.drewN (h : Bk w0 w bb md mb we A c l n S f) (k : Nat) : Bk w0 (w.drewN k) bb md mb we A c l n S f := h.step (pw_below_drewN (Below.refl _ _) k)
theorem Bk.drew (h : Bk w0 w bb md mb we A c l n S f) : Bk w0 w.drew bb md mb we A c l n S f := h.step (below_drew (Below.refl _ _))
theorem Bk.mono (h : Bk w0 w bb md mb we A c l n S f) {n' : Nat} (hn : n ≤ n') : Bk w0 w bb md mb we A c l n' S f :=
  ⟨h.bel, h.blk, h.gb, h.gd, h.gm, h.ne, h.nd, h.nm, h.dn.mono hn, h.dy.mono hn⟩
theorem Bk.stored_d {S' : Int → Bool} (h : Bk w0 w bb md mb we A c l n S f) (hg : w.grownBy w1 (some md)) (hm : MapOk w1 md (n + 1) S') : Bk w0 w1 bb md mb we A c l (n + 1) S' f :=
  ⟨pw_below_grown h.bel (some md) h.bel.size hg (by intro k hk; injection hk with hk; subst hk; exact h.gd), blk_grown h.blk hg (by have := h.nd; simpa using this), h.gb, h.gd, h.gm, h.ne, h.nd, h.nm, hm,
    (h.dy.kept hg (by have := h.ne; simp; omega)).mono (by omega)⟩
theorem Bk.stored_m {f' : Int → Bool} (h : Bk w0 w bb md mb we A c l n S f) (hg : w.grownBy w1 (some mb)) (hm : MapOk w1 mb (n + 1) f') : Bk w0 w1 bb md mb we A c l (n + 1) S f' :=
  ⟨pw_below_grown h.bel (some mb) h.bel.size hg (by intro k hk; injection hk with hk; subst hk; exact h.gm), blk_grown h.blk hg (by have := h.nm; simpa using this), h.gb, h.gd, h.gm, h.ne, h.nd, h.nm,
    (h.dn.kept hg (by have := h.ne; simp; omega)).mono (by omega), hm⟩
end
structure Ok (w0 : World) (we : Int) (A : Option Addr) (l : List S63) : Prop where
 rd : Kd.C k63 w0 A l.length l
 h0 : 0 ≤ we
 h1 : we ≤ 126
 len : l.length ≤ 64
 wf : ∀ x ∈ l, wfS x
 may : ∀ x ∈ l, M.may (ru x) = true
end Go.Proofs.Ytoncignjcgjhhaa.H
namespace Go.Proofs.Ytoncignjcgjhhaa.Q
open Go.RowKit Go.Proofs.YtoncignjcgjhhaaW.PrintWords Go.Proofs.YtoncignjcgjhhaaW.PrintLast Go.Proofs.YtoncignjcgjhhaaW.PrintMore
attribute [local go_sem] max2_int min2_int max_two min_two max_three min_three max_four min_four   -- for this text's walks alone
-- NOT PRINTED: function 70 (cal_begin)
def cal_is.f (a0 : Int) : Option (Bool) := (cal_within.f a0 0 109572).bind fun t154 => (some t154)
set_option maxHeartbeats 8000000 in
set_option maxRecDepth 100000 in
theorem cal_is.calls (a0 : Int) (r : Bool) (w : World) (h : cal_is.f a0 = some r) :
  Calls Try.prog 71 #[.int .i64 a0] w fun e w' => e = .returned (.bool r) ∧ Drawn0 w w' := by
 have H : ((cal_within.f a0 0 109572).bind fun t154 => (some t154)) = some r := h
 clear h;replace H := Option.bind_eq_some_iff.mp H
 obtain ⟨t154, A20, H⟩ := H
 replace H : (some t154) = some r := H
 have A2 := Aside0.mk A20;clear A20
 obtain rfl := Option.some.inj H
 go_enter Try.func71, Try.ntmps71
 go_wp2_with (first | ((with_reducible refine gate_callee (f := 83) rfl ?_); refine goesL_ (some 4) rfl rfl Try.func83 (by kernel_rfl) rfl #[.int .i64 a0, .int .i64 0, .int .i64 109572] rfl (by (try simp only [List.map_toArray, List.map_cons, List.map_nil]); first | done | rfl | (simp only [List.length_drop, List.length_take]; rfl)) ?_; (with_reducible refine (cal_within.calls a0 0 109572 t154 _ A2.out).mono ?_); rintro e w' ⟨rfl, ⟨nd, rfl⟩⟩; refine ⟨_, rfl, ?_⟩))
 go_ret
 exact ⟨by first | rfl | (simp; done) | (simp [*]; done), by repeat (first | exact Drawn0.refl _ | apply Drawn0.step)⟩
-- NOT PRINTED: function 107 (cal_book_off)
-- NOT PRINTED: function 132 (cal_book_moved)
-- NOT PRINTED: function 109 (cal_book_year)
-- NOT PRINTED: function 75 (cal_book_holiday)
-- NOT PRINTED: function 72 (cal_book_open)
end Go.Proofs.Ytoncignjcgjhhaa.Q
