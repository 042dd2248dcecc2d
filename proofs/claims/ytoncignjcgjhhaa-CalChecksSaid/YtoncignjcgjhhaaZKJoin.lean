/- What joining two calendars tells, in the program and in the document: one plain function. Condition: the rules' numbers are of 64 bits. -/
import Derived.Test.YtoncignjcgjhhaaZKRefCa
import Derived.Test.YtoncignjcgjhhaaZKPureCal0
import Derived.Test.YtoncignjcgjhhaaZKQx58
import Derived.Test.YtoncignjcgjhhaaZKQx59
import Derived.Test.YtoncignjcgjhhaaZKQx61
import Derived.Test.YtoncignjcgjhhaaZK
set_option linter.unusedVariables false
set_option linter.unusedSimpArgs false
namespace Go.Proofs.Ytoncignjcgjhhaa.R
open Go.RowKit Go.Proofs.YtoncignjcgjhhaaW.PrintWords Go.Proofs.YtoncignjcgjhhaaW.PrintLast Go.Proofs.YtoncignjcgjhhaaW.PrintMore
open Go.Proofs.Ytoncignjcgjhhaa.Q
open Go.Proofs.Ytoncignjcgjhhaa.L (w64 td tm tm0)

/-- Does a rule of the list move? -/
def mv (l : List S63) : Bool := l.any (fun x => x.f8 != 0)
def ck (we : Int) (l : List S63) : Int := (M.chk we (l.map H.ru)).1
def J1 (we : Int) (l : List S63) : Int × List S63 × Int := if ck we l = 0 then (we, l, 0) else (0, [], ck we l)
/-- What joining tells. -/
def J (a : Int) (l : List S63) (b : Int) (m : List S63) : Int × List S63 × Int :=
  if ck a l = 0 then (if ck b m = 0 then (if (if a = b then false else mv l || mv m) = true then (0, [], 60) else J1 (Go.bits .or .i64 a b) (l ++ m)) else (0, [], ck b m)) else (0, [], ck a l)

theorem ck_len {we : Int} {l : List S63} (h : ck we l = 0) : l.length ≤ 64 := (mays h).2.2.1
theorem cCheck {l : List S63} (hw : wfL l) (we : Int) : cal_Check.f we l = some (M.chk we (l.map H.ru)) := if_pos hw
theorem wfL_app {l m : List S63} (h : wfL l) (g : wfL m) : wfL (l ++ m) := wfL_of fun x hx => by
  rcases List.mem_append.1 hx with hx | hx
  · exact wfL_mem h x hx
  · exact wfL_mem g x hx

theorem mv_drop (l : List S63) (i : Nat) (h : i < l.length) : mv (l.drop i) = (l[i].f8 != 0 || mv (l.drop (i + 1))) := by
  rw [List.drop_eq_getElem_cons h]; rfl
theorem cmoves_l0 (l : List S63) (hl : l.length ≤ 64) : ∀ (f i : Nat), l.length - i = f → i ≤ l.length → Ev (fun k => cal_moves.l0 k l (l.length : Int) (i : Int)) (mv (l.drop i))
  | 0, i, hf, hi => by
    have e : i = l.length := by omega
    refine Ev.step (f := fun _ => some (mv (l.drop i))) (fun k => ?_) (Ev.now _)
    rw [cal_moves.l0, if_neg (by omega), e, List.drop_length]; rfl
  | f + 1, i, hf, hi => by
    have hlt : i < l.length := by omega
    have c1 : (i : Int) < (l.length : Int) := by omega
    have c2 : (0 : Int) ≤ (i : Int) := by omega
    have ih := cmoves_l0 l hl f (i + 1) (by omega) (by omega)
    have hw : wrap64 ((i : Int) + 1) = ((i + 1 : Nat) : Int) := by rw [w64 (by omega) (by omega)]; push_cast; rfl
    by_cases hz : l[i].f8 = 0
    · rw [mv_drop l i hlt, bne_eq_false_iff_eq.2 hz, Bool.false_or]
      refine Ev.step (fun k => ?_) ih
      rw [cal_moves.l0, if_pos c1, if_pos c2, if_pos c1, rd_eq l i hlt, if_pos hz, hw]
    · rw [mv_drop l i hlt, bne_iff_ne.2 hz, Bool.true_or]
      refine Ev.step (f := fun _ => some true) (fun k => ?_) (Ev.now _)
      rw [cal_moves.l0, if_pos c1, if_pos c2, if_pos c1, rd_eq l i hlt, if_neg hz]
theorem cmoves (we : Int) (l : List S63) (hl : l.length ≤ 64) : Ev (fun k => cal_moves.f k we l) (mv l) := by
  have h := cmoves_l0 l hl l.length 0 (by omega) (by omega)
  rw [List.drop_zero] at h
  exact h
theorem rmoves_l0 (we : Int) (l : List S63) (hl : l.length ≤ 64) : ∀ (f i : Nat), l.length - i = f → i ≤ l.length → Ev (fun k => tenorref6_moves.l0 k (i : Int) we l) (mv (l.drop i))
  | 0, i, hf, hi => by
    have e : i = l.length := by omega
    refine Ev.step (f := fun _ => some (mv (l.drop i))) (fun k => ?_) (Ev.now _)
    rw [tenorref6_moves.l0, if_neg (by omega), e, List.drop_length]; rfl
  | f + 1, i, hf, hi => by
    have hlt : i < l.length := by omega
    have c1 : (i : Int) < (l.length : Int) := by omega
    have c2 : (0 : Int) ≤ (i : Int) := by omega
    have ih := rmoves_l0 we l hl f (i + 1) (by omega) (by omega)
    have hw : wrap64 ((i : Int) + 1) = ((i + 1 : Nat) : Int) := by rw [w64 (by omega) (by omega)]; push_cast; rfl
    by_cases hz : l[i].f8 = 0
    · rw [mv_drop l i hlt, bne_eq_false_iff_eq.2 hz, Bool.false_or]
      refine Ev.step (fun k => ?_) ih
      rw [tenorref6_moves.l0, if_pos c1, if_pos c2, rd_eq l i hlt, if_pos hz, hw]
    · rw [mv_drop l i hlt, bne_iff_ne.2 hz, Bool.true_or]
      refine Ev.step (f := fun _ => some true) (fun k => ?_) (Ev.now _)
      rw [tenorref6_moves.l0, if_pos c1, if_pos c2, rd_eq l i hlt, if_neg hz]
theorem rmoves (we : Int) (l : List S63) (hl : l.length ≤ 64) : Ev (fun k => tenorref6_moves.f k we l) (mv l) := by
  have h := rmoves_l0 we l hl l.length 0 (by omega) (by omega)
  rw [List.drop_zero] at h
  exact h

def Jb (b : Bool) (a : Int) (l : List S63) (c : Int) (m : List S63) : Int × List S63 × Int := if b = true then (0, [], 60) else J1 (Go.bits .or .i64 a c) (l ++ m)
theorem cJoin_j0 (b : Bool) {a c : Int} {l m : List S63} (hl : wfL l) (hm : wfL m) (nl : l.length ≤ 64) (nm : m.length ≤ 64) : Ev (fun k => cal_Join.j0 k b a l c m) (Jb b a l c m) := by
  cases b with
  | true => exact Ev.step (f := fun _ => some (Jb true a l c m)) (fun k => by rw [cal_Join.j0, if_pos rfl]; rfl) (Ev.now _)
  | false =>
    have hw : wrap64 ((l.length : Int) + (m.length : Int)) = (l.length : Int) + (m.length : Int) := w64 (by omega) (by omega)
    have c1 : (0 : Int) ≤ (l.length : Int) + (m.length : Int) := by omega
    have c2 : ((l.length : Int) + (m.length : Int)).toNat ≤ 3909374676536 := by omega
    have c3 : 0 + l.length < 1954687338268 := by omega
    have c4 : l.length + m.length < 1954687338268 := by omega
    refine Ev.step (f := fun _ => some (Jb false a l c m)) (fun k => ?_) (Ev.now _)
    rw [cal_Join.j0, if_neg (by decide), hw, if_pos c1, if_pos c2]
    simp only [List.replicate_zero, List.nil_append, List.length_nil, Option.bind_some]
    rw [if_pos c3, if_pos c4, cCheck (wfL_app hl hm), Option.bind_some]
    have e : Jb false a l c m = J1 (Go.bits .or .i64 a c) (l ++ m) := rfl
    rw [e]; unfold J1 ck
    split <;> rfl
theorem cJoin {a c : Int} {l m : List S63} (hl : wfL l) (hm : wfL m) : Ev (fun k => cal_Join.f k a l c m) (J a l c m) := by
  refine Ev.congr (fun k => by unfold cal_Join.f; rw [cCheck hl, Option.bind_some, cCheck hm, Option.bind_some]) ?_
  unfold J
  by_cases h1 : ck a l = 0
  · have n1 := ck_len h1
    rw [if_pos h1]
    refine Ev.congr (fun k => if_pos h1) ?_
    by_cases h2 : ck c m = 0
    · have n2 := ck_len h2
      rw [if_pos h2]
      refine Ev.congr (fun k => if_pos h2) ?_
      by_cases h3 : a = c
      · rw [if_pos h3]
        exact Ev.congr (fun k => if_pos h3) (cJoin_j0 false hl hm n1 n2)
      · rw [if_neg h3]
        refine Ev.congr (fun k => if_neg h3) (Ev.bind (cmoves a l n1) ?_)
        cases hv : mv l with
        | true => exact Ev.congr (fun k => if_pos rfl) (cJoin_j0 true hl hm n1 n2)
        | false =>
          refine Ev.congr (fun k => if_neg (by decide)) (Ev.bind (cmoves c m n2) ?_)
          rw [Bool.false_or]
          exact cJoin_j0 (mv m) hl hm n1 n2
    · rw [if_neg h2]
      exact Ev.congr (fun k => if_neg h2) (Ev.now _)
  · rw [if_neg h1]
    exact Ev.congr (fun k => if_neg h1) (Ev.now _)

theorem rJoin_j0 (b : Bool) {a c : Int} {l m : List S63} (nl : l.length ≤ 64) (nm : m.length ≤ 64) : Ev (fun k => tenorref6_Join.j0 k b a l c m) (Jb b a l c m) := by
  cases b with
  | true => exact Ev.step (f := fun _ => some (Jb true a l c m)) (fun k => by rw [tenorref6_Join.j0, if_pos rfl]; rfl) (Ev.now _)
  | false =>
    have c3 : 0 + l.length < 1954687338268 := by omega
    have c4 : l.length + m.length < 1954687338268 := by omega
    have hs : ∀ k, tenorref6_Join.j0 (k + 1) false a l c m = (tenorref6_Check.f k (Go.bits .or .i64 a c) (l ++ m)).bind fun bt657 => (if bt657.1 = 0 then (some (Go.bits .or .i64 a c, l ++ m, 0)) else (some (0, ([] : List (S63)), bt657.1))) := by
      intro k
      rw [tenorref6_Join.j0, if_neg (by decide)]
      simp only [List.nil_append, List.length_nil, Option.bind_some]
      rw [if_pos c3, if_pos c4]
    refine Ev.step hs (Ev.bind (Check _ _) ?_)
    refine Ev.congr (fun k => ?_) (Ev.now _)
    have e : Jb false a l c m = J1 (Go.bits .or .i64 a c) (l ++ m) := rfl
    rw [e]; unfold J1 ck
    split <;> rfl
theorem rJoin (a c : Int) (l m : List S63) : Ev (fun k => tenorref6_Join.f k a l c m) (J a l c m) := by
  refine Ev.congr (fun k => by unfold tenorref6_Join.f; rfl) (Ev.bind (Check a l) ?_)
  unfold J
  by_cases h1 : ck a l = 0
  · have n1 := ck_len h1
    rw [if_pos h1]
    refine Ev.congr (fun k => if_pos h1) (Ev.bind (Check c m) ?_)
    by_cases h2 : ck c m = 0
    · have n2 := ck_len h2
      rw [if_pos h2]
      refine Ev.congr (fun k => if_pos h2) ?_
      by_cases h3 : a = c
      · rw [if_pos h3]
        exact Ev.congr (fun k => if_pos h3) (rJoin_j0 false n1 n2)
      · rw [if_neg h3]
        refine Ev.congr (fun k => if_neg h3) (Ev.bind (rmoves a l n1) ?_)
        cases hv : mv l with
        | true => exact Ev.congr (fun k => if_pos rfl) (rJoin_j0 true n1 n2)
        | false =>
          refine Ev.congr (fun k => if_neg (by decide)) (Ev.bind (rmoves c m n2) ?_)
          rw [Bool.false_or]
          exact rJoin_j0 (mv m) n1 n2
    · rw [if_neg h2]
      exact Ev.congr (fun k => if_neg h2) (Ev.now _)
  · rw [if_neg h1]
    exact Ev.congr (fun k => if_neg h1) (Ev.now _)

/-- Two equal calendars are the same. -/
theorem Same_l0 (a : Int) (l : List S63) (hl : l.length ≤ 1000) : ∀ (f i : Nat), l.length - i = f → i ≤ l.length → Ev (fun k => tenorref6_Same.l0 k (i : Int) a l a l) true
  | 0, i, hf, hi => by
    refine Ev.step (f := fun _ => some true) (fun k => ?_) (Ev.now _)
    rw [tenorref6_Same.l0, if_neg (by omega)]
  | f + 1, i, hf, hi => by
    have c1 : (i : Int) < (l.length : Int) := by omega
    have c2 : (0 : Int) ≤ (i : Int) := by omega
    have hw : wrap64 ((i : Int) + 1) = ((i + 1 : Nat) : Int) := by rw [w64 (by omega) (by omega)]; push_cast; rfl
    refine Ev.step (fun k => ?_) (Same_l0 a l hl f (i + 1) (by omega) (by omega))
    rw [tenorref6_Same.l0, if_pos c1, if_pos c2, if_pos c1, hw]
    simp
theorem Same (a : Int) (l : List S63) (hl : l.length ≤ 1000) : Ev (fun k => tenorref6_Same.f k a l a l) true := by
  refine Ev.congr (fun k => by unfold tenorref6_Same.f; rw [if_pos rfl]) ?_
  have e : ((l.length : Int) != (l.length : Int)) = false := bne_self_eq_false _
  rw [e]
  exact Ev.step (fun k => by rw [tenorref6_Same.j0, if_neg (by decide)]; rfl) (Same_l0 a l hl l.length 0 (by omega) (by omega))

theorem J1_len (a : Int) (l : List S63) (h : l.length ≤ 1000) : (J1 a l).2.1.length ≤ 1000 := by
  unfold J1
  by_cases hc : ck a l = 0
  · rw [if_pos hc]; exact h
  · rw [if_neg hc]; exact Nat.zero_le _
theorem J_len (a c : Int) (l m : List S63) : (J a l c m).2.1.length ≤ 1000 := by
  unfold J
  by_cases h1 : ck a l = 0
  · rw [if_pos h1]
    by_cases h2 : ck c m = 0
    · rw [if_pos h2]
      have := ck_len h1; have := ck_len h2
      by_cases h3 : (if a = c then false else mv l || mv m) = true
      · rw [if_pos h3]; exact Nat.zero_le _
      · rw [if_neg h3]; exact J1_len _ _ (by rw [List.length_append]; omega)
    · rw [if_neg h2]; exact Nat.zero_le _
  · rw [if_neg h1]; exact Nat.zero_le _
theorem J_wf {a c : Int} {l m : List S63} (hl : wfL l) (hm : wfL m) : wfL (J a l c m).2.1 := by
  have hn : wfL ([] : List S63) := wfL_of (by simp)
  unfold J
  by_cases h1 : ck a l = 0
  · rw [if_pos h1]
    by_cases h2 : ck c m = 0
    · rw [if_pos h2]
      by_cases h3 : (if a = c then false else mv l || mv m) = true
      · rw [if_pos h3]; exact hn
      · rw [if_neg h3]; unfold J1
        by_cases h4 : ck (Go.bits .or .i64 a c) (l ++ m) = 0
        · rw [if_pos h4]; exact wfL_app hl hm
        · rw [if_neg h4]; exact hn
    · rw [if_neg h2]; exact hn
  · rw [if_neg h1]; exact hn
end Go.Proofs.Ytoncignjcgjhhaa.R
