/- The statement of schedules that come out even: whichever stub it is, the same dates. No condition. -/
import Derived.Test.YtoncignjcgjhhaaTSchC
import Derived.Test.YtoncignjcgjhhaaTGK
import Derived.Test.YtoncignjcgjhhaaTQx81
set_option linter.unusedVariables false
set_option linter.unusedSimpArgs false
namespace Go.Proofs.Ytoncignjcgjhhaa.S
open Go.RowKit Go.Proofs.YtoncignjcgjhhaaW.PrintWords Go.Proofs.YtoncignjcgjhhaaW.PrintLast Go.Proofs.YtoncignjcgjhhaaW.PrintMore
open Go.Proofs.Ytoncignjcgjhhaa.Q
open Go.Proofs.Ytoncignjcgjhhaa.L (w64 td tm tm0)
theorem sameE_l0 (l : List Int) (hl : l.length ≤ 5000) : ∀ (f i : Nat), l.length - i = f → i ≤ l.length → Ev (fun k => tenorref8_SameInts.l0 k l l (i : Int)) true
 | 0, i, hf, hi => by
  refine Ev.step (f := fun _ => some true) (fun k => ?_) (Ev.now _)
  rw [tenorref8_SameInts.l0, if_neg (by omega)]
 | f + 1, i, hf, hi => by
  have c1 : (i : Int) < (l.length : Int) := by omega
  have c2 : (0 : Int) ≤ (i : Int) := by omega
  have hw : wrap64 ((i : Int) + 1) = ((i + 1 : Nat) : Int) := by rw [w64 (by omega) (by omega)]; push_cast; rfl
  refine Ev.step (fun k => ?_) (sameE_l0 l hl f (i + 1) (by omega) (by omega))
  rw [tenorref8_SameInts.l0, if_pos c1, if_pos c2, if_pos c1, if_pos rfl, hw]
theorem sameE (l : List Int) (hl : l.length ≤ 5000) : Ev (fun k => tenorref8_SameInts.f k l l) true := by
  refine Ev.congr (fun k => by unfold tenorref8_SameInts.f; rw [if_pos rfl]; rfl) (sameE_l0 l hl l.length 0 (by omega) (by omega))
def evenS (a b n u st : Int) : Sp := ⟨a, b, n, u, st, 0, 0, 0, 0, []⟩
def at_ (a d : Int) (j : Nat) : Int := a + (j : Int) * d
def want (a d : Int) (K : Nat) : List Int := (List.range (K + 1)).map (at_ a d)
theorem pt_even {a b n u st x k d : Int} (hu : u = 1 ∧ d = n ∨ u = 2 ∧ d = 7 * n) (h1 : -1200 ≤ k) (h2 : k ≤ 1200) (h3 : 0 ≤ x + k * d) (h4 : x + k * d ≤ 109572) : (evenS a b n u st).pt x k = some (x + k * d) := by
 unfold Sp.pt
 rw [if_neg (by omega)]
 rcases hu with ⟨rfl, rfl⟩ | ⟨rfl, rfl⟩
 ·
  rw [if_neg (by show ¬ ((1 : Int) = 2); decide), if_pos (by rfl)]
  show asDay (x + k * d) = _
  unfold asDay; rw [if_pos ⟨h3, h4⟩]
 ·
  rw [if_pos (by rfl)]
  show asDay (x + 7 * (k * n)) = _
  rw [Int.mul_left_comm 7 k n]
  unfold asDay; rw [if_pos ⟨h3, h4⟩]
theorem at_lt {a d : Int} (hd : 1 ≤ d) {i j : Nat} (h : i < j) : at_ a d i < at_ a d j := by
 unfold at_
 have := Int.mul_lt_mul_of_pos_right (show (i : Int) < (j : Int) by omega) (show 0 < d by omega)
 omega
theorem at_le {a d : Int} (hd : 1 ≤ d) {i j : Nat} (h : i ≤ j) : at_ a d i ≤ at_ a d j := by
 rcases Nat.lt_or_eq_of_le h with h | h
 ·
  exact Int.le_of_lt (at_lt hd h)
 ·
  rw [h]; exact Int.le_refl _
theorem at_zero (a d : Int) : at_ a d 0 = a := by unfold at_; simp
section
variable {a n u st d : Int} {K : Nat} (hu : u = 1 ∧ d = n ∨ u = 2 ∧ d = 7 * n) (hd : 1 ≤ d) (ha : 0 ≤ a) (hz : at_ a d K ≤ 109572) (hK : K ≤ 1200)
include hu hd ha hz hK
theorem fwd (b : Int) : ∀ (f i : Nat), i < K → i + f = 1200 → (evenS a b n u st).inn false a (at_ a d K) 1 f i = some ((List.range' (i + 1) (K - 1 - i)).map (at_ a d), true)
 | 0, i, h1, h2 => by omega
 | f + 1, i, h1, h2 => by
  have hle := at_le (a := a) hd (show i + 1 ≤ K by omega)
  have h0 : a ≤ at_ a d (i + 1) := by have := at_le (a := a) hd (Nat.zero_le (i + 1)); rw [at_zero] at this; exact this
  have e : a + (1 * ((i : Int) + 1)) * d = at_ a d (i + 1) := by unfold at_; rw [Int.one_mul]; push_cast; rfl
  have hp : (evenS a b n u st).pt a (1 * ((i : Int) + 1)) = some (at_ a d (i + 1)) := by rw [← e]; exact pt_even hu (by omega) (by omega) (by omega) (by omega)
  rw [Sp.inn, hp]
  show (if at_ a d (i + 1) = at_ a d K then _ else _) = _
  by_cases hc : i + 1 = K
  ·
   rw [hc, if_pos rfl, show K - 1 - i = 0 by omega]; rfl
  ·
   have hlt := at_lt (a := a) hd (show i + 1 < K by omega)
   rw [if_neg (by omega), if_neg (by rw [if_neg (by decide)]; omega), if_neg (by omega), fwd b f (i + 1) (by omega) (by omega)]
   rw [show K - 1 - i = (K - 1 - (i + 1)) + 1 by omega, List.range'_succ]
   rfl
theorem bwd (b : Int) : ∀ (f i : Nat), i < K → i + f = 1200 → (evenS a b n u st).inn true (at_ a d K) a (-1) f i = some ((List.range' (i + 1) (K - 1 - i)).map (fun j => at_ a d (K - j)), true)
 | 0, i, h1, h2 => by omega
 | f + 1, i, h1, h2 => by
  have hle := at_le (a := a) hd (show K - (i + 1) ≤ K by omega)
  have h0 : a ≤ at_ a d (K - (i + 1)) := by have := at_le (a := a) hd (Nat.zero_le (K - (i + 1))); rw [at_zero] at this; exact this
  have e : at_ a d K + (-1 * ((i : Int) + 1)) * d = at_ a d (K - (i + 1)) := by
   unfold at_
   rw [show ((K - (i + 1) : Nat) : Int) = (K : Int) + -1 * ((i : Int) + 1) by omega, Int.add_mul]; omega
  have hp : (evenS a b n u st).pt (at_ a d K) (-1 * ((i : Int) + 1)) = some (at_ a d (K - (i + 1))) := by rw [← e]; exact pt_even hu (by omega) (by omega) (by omega) (by omega)
  rw [Sp.inn, hp]
  show (if at_ a d (K - (i + 1)) = a then _ else _) = _
  by_cases hc : i + 1 = K
  ·
   rw [show K - (i + 1) = 0 by omega, at_zero, if_pos rfl, show K - 1 - i = 0 by omega]; rfl
  ·
   have hlt := at_lt (a := a) hd (show 0 < K - (i + 1) by omega)
   rw [at_zero] at hlt
   rw [if_neg (by omega), if_neg (by rw [if_pos rfl]; omega), if_neg (by omega), bwd b f (i + 1) (by omega) (by omega)]
   rw [show K - 1 - i = (K - 1 - (i + 1)) + 1 by omega, List.range'_succ]
   rfl
theorem even_out (hK1 : 1 ≤ K) (hn : 1 ≤ n ∧ n ≤ 1200) (hst : 1 ≤ st ∧ st ≤ 4) : (evenS a (at_ a d K) n u st).dates = (want a d K, 0) := by
 have hlt := at_lt (a := a) hd (show 0 < K by omega)
 rw [at_zero] at hlt
 have hdays : (evenS a (at_ a d K) n u st).days := ⟨⟨ha, by show a ≤ 109572; omega⟩, by show 0 ≤ at_ a d K; omega, hz⟩
 have hfit : (evenS a (at_ a d K) n u st).fit := ⟨hlt, hn, by show 1 ≤ u ∧ u ≤ 4; omega, hst, by show (0 : Int) ≤ 0 ∧ (0 : Int) ≤ 2; decide, .inl rfl, by show (0 : Int) ≤ 0 ∧ (0 : Int) ≤ 4; decide, by show (0 : Int) ≤ 0 ∧ (0 : Int) ≤ 30; decide⟩
 have hc : (evenS a (at_ a d K) n u st).chk = 0 := by
  rw [chk_fit hdays hfit]
  show ck 0 [] = 0
  rfl
 have hinn : (if (evenS a (at_ a d K) n u st).back = true then (evenS a (at_ a d K) n u st).inn true (at_ a d K) a (-1) 1200 0 else (evenS a (at_ a d K) n u st).inn false a (at_ a d K) 1 1200 0) = some (ordL (evenS a (at_ a d K) n u st).back ((List.range' 1 (K - 1)).map (at_ a d)), true) := by
  cases (evenS a (at_ a d K) n u st).back with
  | true =>
   rw [if_pos rfl, bwd hu hd ha hz hK _ 1200 0 (by omega) rfl]
   congr 2
   unfold ordL
   rw [if_pos rfl]
   refine List.ext_getElem (by simp) (fun j h1 h2 => ?_)
   simp only [List.length_map, List.length_range'] at h1
   simp only [List.getElem_map, List.getElem_range', List.getElem_reverse, List.length_map, List.length_range']
   congr 1; omega
  | false =>
   rw [if_neg (by decide), fwd hu hd ha hz hK _ 1200 0 (by omega) rfl]
   rfl
 unfold Sp.dates
 rw [if_pos hc]
 show (match (if (evenS a (at_ a d K) n u st).back = true then (evenS a (at_ a d K) n u st).inn true (at_ a d K) a (-1) 1200 0 else (evenS a (at_ a d K) n u st).inn false a (at_ a d K) 1 1200 0) with | none => (([] : List Int), (81 : Int)) | some (l, e) => ((evenS a (at_ a d K) n u st).out l e, 0)) = _
 rw [hinn]
 show ((evenS a (at_ a d K) n u st).out _ true, (0 : Int)) = _
 congr 1
 unfold Sp.out
 have hcut : ∀ l, cutL (evenS a (at_ a d K) n u st).long true l = l := fun l => by unfold cutL; rw [if_neg (fun h => by cases h.2.1)]
 rw [hcut]
 have hoo : ∀ (b : Bool) (l : List Int), ordL b (ordL b l) = l := fun b l => by cases b <;> simp [ordL]
 rw [hoo]
 unfold want
 rw [List.range_eq_range']
 obtain ⟨m, rfl⟩ : ∃ m, K = m + 1 := ⟨K - 1, by omega⟩
 rw [List.range'_succ, List.map_cons, at_zero, show 0 + 1 = 1 from rfl, List.range'_concat, List.map_append, show m + 1 - 1 = m from rfl]
 show a :: ((List.range' 1 m).map (at_ a d) ++ [at_ a d (m + 1)]) = a :: ((List.range' 1 m).map (at_ a d) ++ [at_ a d (1 + 1 * m)])
 rw [show 1 + 1 * m = m + 1 by omega]
end
theorem wf0 : wfL ([] : List S63) := rfl
theorem awk : Ev (fun k => (tenorlaw8_awake.f k).bind fun t => some t) true := Ev.bind awake8 (Ev.now _)
theorem Even_l1 {a n u d : Int} {K : Nat} (hu : u = 1 ∧ d = n ∨ u = 2 ∧ d = 7 * n) (hd : 1 ≤ d) (ha : 0 ≤ a) (hz : at_ a d K ≤ 109572) (hK : K ≤ 1200) (hK1 : 1 ≤ K) (hn : 1 ≤ n ∧ n ≤ 1200) (st0 : Int) : Ev (fun k => tenorlaw8_SchedEven.l1 k (want a d K) 1 a (at_ a d K) n u st0 0 0 0 0) true := by
 have hs : ∀ st, 1 ≤ st → st ≤ 4 → (∀ st0, Ev (fun k => tenorlaw8_SchedEven.l1 k (want a d K) (st + 1) a (at_ a d K) n u st0 0 0 0 0) true) → ∀ st0, Ev (fun k => tenorlaw8_SchedEven.l1 k (want a d K) st a (at_ a d K) n u st0 0 0 0 0) true := by
  intro st h1 h2 h st0
  have hw : wrap64 (st + 1) = st + 1 := w64 (by omega) (by omega)
  have hdt : Ev (fun q => sched_Dates.f q a (at_ a d K) n u st 0 0 0 0 ([] : List S63)) (want a d K, 0) := by
   have h0 := sDates (evenS a (at_ a d K) n u st) wf0
   rw [even_out hu hd ha hz hK hK1 hn ⟨h1, h2⟩] at h0
   exact h0
  refine Ev.step (fun q => by rw [tenorlaw8_SchedEven.l1, if_pos h2]) (Ev.bind hdt ?_)
  refine Ev.congr (fun q => if_pos rfl) (Ev.bind (sameE _ (by unfold want; simp; omega)) ?_)
  exact Ev.congr (fun q => by rw [if_pos rfl, hw]) (h st)
 have h5 : ∀ st0, Ev (fun k => tenorlaw8_SchedEven.l1 k (want a d K) (4 + 1) a (at_ a d K) n u st0 0 0 0 0) true := fun st0 =>
  Ev.step (fun q => by rw [tenorlaw8_SchedEven.l1, if_neg (by decide)]) awk
 exact hs 1 (by decide) (by decide) (hs 2 (by decide) (by decide) (hs 3 (by decide) (by decide) (hs 4 (by decide) (by decide) h5))) st0
theorem Even_l0 {a n u d : Int} {K : Nat} (hu : u = 1 ∧ d = n ∨ u = 2 ∧ d = 7 * n) (hd : 1 ≤ d ∧ d ≤ 8400) (ha : 0 ≤ a) (hz : at_ a d K ≤ 109572) (hK : K ≤ 1200) (hK1 : 1 ≤ K) (hn : 1 ≤ n ∧ n ≤ 1200) (st0 : Int) : ∀ (f i : Nat), i + f = K + 1 →
  Ev (fun k => tenorlaw8_SchedEven.l0 k a (K : Int) d ((List.range i).map (at_ a d)) (i : Int) a (at_ a d K) n u st0 0 0 0 0) true
 | 0, i, hf => by
  have e : i = K + 1 := by omega
  subst e
  refine Ev.step (fun q => by rw [tenorlaw8_SchedEven.l0, if_neg (by omega)]; rfl) (Even_l1 hu hd.1 ha hz hK hK1 hn st0)
 | f + 1, i, hf => by
  have hi : (i : Int) ≤ (K : Int) := by omega
  have hl : ((List.range i).map (at_ a d)).length < 17592186044416 := by rw [List.length_map, List.length_range]; omega
  have hrec := Even_l0 hu hd ha hz hK hK1 hn st0 f (i + 1) (by omega)
  have hle := at_le (a := a) hd.1 (show i ≤ K by omega)
  have h0 := at_le (a := a) hd.1 (Nat.zero_le i)
  rw [at_zero] at h0
  have e : at_ a d i = a + (i : Int) * d := rfl
  have hw1 : wrap64 ((i : Int) * d) = (i : Int) * d := w64 (by omega) (by omega)
  have hw2 : wrap64 (a + (i : Int) * d) = at_ a d i := by rw [w64 (by omega) (by omega)]; rfl
  have hw3 : wrap64 ((i : Int) + 1) = ((i + 1 : Nat) : Int) := by rw [w64 (by omega) (by omega)]; push_cast; rfl
  have he : (List.range i).map (at_ a d) ++ [at_ a d i] = (List.range (i + 1)).map (at_ a d) := by rw [List.range_succ, List.map_append]; rfl
  refine Ev.step (fun q => by rw [tenorlaw8_SchedEven.l0, if_pos hi, if_pos hl, hw1, hw2, hw3, he]) hrec
theorem Even_j1 {a n u d k : Int} (hu : u = 1 ∧ d = n ∨ u = 2 ∧ d = 7 * n) (hd : 1 ≤ d ∧ d ≤ 8400) (ha : 0 ≤ a ∧ a ≤ 109572) (hk : 1 ≤ k ∧ k ≤ 1200) (hn : 1 ≤ n ∧ n ≤ 1200) : Ev (fun q => tenorlaw8_SchedEven.j1 q a k d a 0 n u 1 0 0 0 0) true := by
 obtain ⟨K, rfl⟩ : ∃ K : Nat, k = (K : Int) := ⟨k.toNat, by omega⟩
 have h1 : (K : Int) * d ≤ 1200 * 8400 := Int.mul_le_mul hk.2 hd.2 (by omega) (by decide)
 have h2 : 0 ≤ (K : Int) * d := Int.mul_nonneg (by omega) (by omega)
 have hw1 : wrap64 ((K : Int) * d) = (K : Int) * d := w64 (by omega) (by omega)
 have hw2 : wrap64 (a + (K : Int) * d) = at_ a d K := by rw [w64 (by omega) (by omega)]; rfl
 refine Ev.step (fun q => by rw [tenorlaw8_SchedEven.j1, hw1, hw2]) ?_
 refine ev_ite (fun _ => awk) (fun c => ?_)
 exact Even_l0 hu hd ha.1 (by omega) (by omega) (by omega) hn 1 (K + 1) 0 (by omega)
theorem SchedEven (a n k : Int) (week : Bool) : Ev (fun q => tenorlaw8_SchedEven.f q a n k week) true := by
 have ht : Ev (fun q => tenorlaw8_SchedEven.j0 q a n k week true) true := Ev.step (fun q => by rw [tenorlaw8_SchedEven.j0, if_pos rfl]) awk
 refine Ev.congr (fun q => by unfold tenorlaw8_SchedEven.f; rfl) (ev_ite (fun _ => ht) (fun c1 => ev_ite (fun _ => ht) (fun c2 => ev_ite (fun _ => ht) (fun c3 => ev_ite (fun _ => ht) (fun c4 => ev_ite (fun _ => ht) (fun c5 => ?_))))))
 by_cases c6 : k > 1200
 ·
  exact Ev.congr (fun q => by rw [decide_eq_true c6]) ht
 ·
  have hw : wrap64 (7 * n) = 7 * n := w64 (by omega) (by omega)
  refine Ev.congr (fun q => by rw [decide_eq_false c6]) ?_
  refine Ev.step (fun q => by rw [tenorlaw8_SchedEven.j0, if_neg (by decide), hw]) ?_
  refine ev_ite (fun _ => ?_) (fun _ => ?_)
  ·
   exact Even_j1 (a := a) (u := 2) (n := n) (d := 7 * n) (k := k) (.inr ⟨rfl, rfl⟩) ⟨by omega, by omega⟩ ⟨by omega, by omega⟩ ⟨by omega, by omega⟩ ⟨by omega, by omega⟩
  ·
   exact Even_j1 (a := a) (u := 1) (n := n) (d := n) (k := k) (.inl ⟨rfl, rfl⟩) ⟨by omega, by omega⟩ ⟨by omega, by omega⟩ ⟨by omega, by omega⟩ ⟨by omega, by omega⟩
end Go.Proofs.Ytoncignjcgjhhaa.S
