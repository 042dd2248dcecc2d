/- The statement of the joined calendar: it is open where both are. Condition: the rules' numbers are of 64 bits. -/
import Derived.Test.YtoncignjcgjhhaaZJoin
import Derived.Test.YtoncignjcgjhhaaZQx63
import Derived.Test.YtoncignjcgjhhaaZV
set_option linter.unusedVariables false
set_option linter.unusedSimpArgs false
namespace Go.Proofs.Ytoncignjcgjhhaa.M
theorem or_nat {a b : Nat} (ha : a < 128) (hb : b < 128) : Go.bits .or .i64 (a : Int) (b : Int) = ((a ||| b : Nat) : Int) := by
  have h1 : (BitVec.ofInt 64 (a : Int)).toNat = a := by
    rw [BitVec.toNat_ofInt]; omega
  have h2 : (BitVec.ofInt 64 (b : Int)).toNat = b := by
    rw [BitVec.toNat_ofInt]; omega
  have h3 : a ||| b < 2 ^ 7 := Nat.or_lt_two_pow (by omega) (by omega)
  rw [L.or_eq, BitVec.toNat_or, h1, h2, IntKind.wrap_i64]
  omega
theorem off_nat (a : Nat) (n : Int) : off (a : Int) n = a.testBit ((n + 7) % 7).toNat := by
  unfold off
  rw [Nat.testBit_eq_decide_div_mod_eq, decide_eq_decide]
  have : ((a / 2 ^ ((n + 7) % 7).toNat % 2 : Nat) : Int) = (a : Int) / 2 ^ ((n + 7) % 7).toNat % 2 := by push_cast; rfl
  omega
theorem off_or {a b : Int} (ha : 0 ≤ a ∧ a ≤ 126) (hb : 0 ≤ b ∧ b ≤ 126) (n : Int) : off (Go.bits .or .i64 a b) n = (off a n || off b n) := by
  obtain ⟨x, rfl⟩ := Int.eq_ofNat_of_zero_le ha.1
  obtain ⟨y, rfl⟩ := Int.eq_ofNat_of_zero_le hb.1
  rw [or_nat (by omega) (by omega), off_nat, off_nat, off_nat, Nat.testBit_or]
theorem or_same {a : Int} (ha : 0 ≤ a ∧ a ≤ 126) : Go.bits .or .i64 a a = a := by
  obtain ⟨x, rfl⟩ := Int.eq_ofNat_of_zero_le ha.1
  rw [or_nat (by omega) (by omega), Nat.or_self]
theorem gives_still {r : Rul} (h : r.mv = 0) (a b y n : Int) : gives a r y n = gives b r y n := by
  unfold gives moved; simp only [h, if_true]
theorem hol_still {l : List Rul} (h : ∀ r ∈ l, r.mv = 0) (a b n : Int) : hol a l n = hol b l n := by
  unfold hol
  rw [Bool.eq_iff_iff, List.any_eq_true, List.any_eq_true]
  constructor <;> rintro ⟨r, hr, hg⟩ <;> refine ⟨r, hr, ?_⟩
  · rw [gives_still (h r hr) b a, gives_still (h r hr) b a, gives_still (h r hr) b a]; exact hg
  · rw [gives_still (h r hr) a b, gives_still (h r hr) a b, gives_still (h r hr) a b]; exact hg
theorem hol_app (we : Int) (l m : List Rul) (n : Int) : hol we (l ++ m) n = (hol we l n || hol we m n) := List.any_append
theorem open_or {a b : Int} {l m : List Rul} (ha : 0 ≤ a ∧ a ≤ 126) (hb : 0 ≤ b ∧ b ≤ 126) (h : a = b ∨ ((∀ r ∈ l, r.mv = 0) ∧ ∀ r ∈ m, r.mv = 0)) (n : Int) :
    isOpen (Go.bits .or .i64 a b) (l ++ m) n = (isOpen a l n && isOpen b m n) := by
  have e : hol (Go.bits .or .i64 a b) (l ++ m) n = (hol a l n || hol b m n) := by
    rw [hol_app]
    rcases h with rfl | ⟨h1, h2⟩
    · rw [or_same ha]
    · rw [hol_still h1 _ a, hol_still h2 _ b]
  unfold isOpen
  rw [off_or ha hb, e]
  cases off a n <;> cases off b n <;> cases hol a l n <;> cases hol b m n <;> rfl
end Go.Proofs.Ytoncignjcgjhhaa.M
namespace Go.Proofs.Ytoncignjcgjhhaa.R
open Go.RowKit Go.Proofs.YtoncignjcgjhhaaW.PrintWords Go.Proofs.YtoncignjcgjhhaaW.PrintLast Go.Proofs.YtoncignjcgjhhaaW.PrintMore
open Go.Proofs.Ytoncignjcgjhhaa.Q
open Go.Proofs.Ytoncignjcgjhhaa.L (w64 td tm tm0)

theorem mv_none {l : List S63} (h : mv l = false) : ∀ r ∈ l.map H.ru, r.mv = 0 := by
  intro r hr
  obtain ⟨x, hx, rfl⟩ := List.mem_map.1 hr
  have := List.any_eq_false.1 h x hx
  show x.f8 = 0
  simpa using this
theorem J_ok {a c : Int} {l m : List S63} (h : (J a l c m).2.2 = 0) : ck a l = 0 ∧ ck c m = 0 ∧ (a = c ∨ (mv l = false ∧ mv m = false)) ∧ ck (Go.bits .or .i64 a c) (l ++ m) = 0 ∧ J a l c m = (Go.bits .or .i64 a c, l ++ m, 0) := by
  unfold J at h ⊢
  by_cases h1 : ck a l = 0
  · rw [if_pos h1] at h ⊢
    by_cases h2 : ck c m = 0
    · rw [if_pos h2] at h ⊢
      by_cases h3 : (if a = c then false else mv l || mv m) = true
      · rw [if_pos h3] at h; exact absurd h (by decide)
      · rw [if_neg h3] at h ⊢
        unfold J1 at h ⊢
        by_cases h4 : ck (Go.bits .or .i64 a c) (l ++ m) = 0
        · rw [if_pos h4] at h ⊢
          refine ⟨h1, h2, ?_, h4, rfl⟩
          by_cases h5 : a = c
          · exact .inl h5
          · rw [if_neg h5] at h3
            refine .inr ?_
            cases hl : mv l <;> cases hm : mv m <;> simp [hl, hm] at h3 ⊢
        · rw [if_neg h4] at h; exact absurd h h4
    · rw [if_neg h2] at h; exact absurd h h2
  · rw [if_neg h1] at h; exact absurd h h1

theorem open_is {we : Int} {l : List M.Rul} {i : Int} (hc : (M.chk we l).1 = 0) (hi : M.isDay i) : M.Open we l i = (M.isOpen we l i, 0) := by
  unfold M.Open; rw [if_pos hc, if_pos hi]
theorem CalBoth_j0t (a c : Int) (l m : List S63) (n x : Int) (y : List S63) : Ev (fun k => tenorlaw6_CalBoth.j0 k n true a l c m x y) true :=
  Ev.step (f := fun _ => some true) (fun k => by rw [tenorlaw6_CalBoth.j0, if_pos rfl, awake6b]) (Ev.now _)

theorem CalBoth_j0f {a c : Int} {l m : List S63} (n : Int) (hl : wfL l) (hm : wfL m) (h : (J a l c m).2.2 = 0) : Ev (fun k => tenorlaw6_CalBoth.j0 k n false a l c m (J a l c m).1 (J a l c m).2.1) true := by
  obtain ⟨h1, h2, h3, h4, h5⟩ := J_ok h
  rw [h5]
  have a1 := mays h1; have a2 := mays h2
  have hs : ∀ k, tenorlaw6_CalBoth.j0 (k + 1) n false a l c m (Go.bits .or .i64 a c) (l ++ m) = _ := fun k => by
    rw [tenorlaw6_CalBoth.j0, if_neg (by decide), cOpen hl, cOpen hm, cOpen (wfL_app hl hm), Option.bind_some, Option.bind_some, Option.bind_some]
  refine Ev.step hs ?_
  clear hs
  refine Ev.congr (fun k => ?_) (Ev.now _)
  by_cases hn : M.isDay n
  · rw [open_is h1 hn, open_is h2 hn, open_is h4 hn, List.map_append, M.open_or ⟨a1.1, a1.2.1⟩ ⟨a2.1, a2.2.1⟩ (h3.imp id fun h => ⟨mv_none h.1, mv_none h.2⟩), awake6b]
    cases M.isOpen a (l.map H.ru) n <;> cases M.isOpen c (m.map H.ru) n <;> rfl
  · have e : ∀ {w : Int} {q : List M.Rul}, (M.chk w q).1 = 0 → M.Open w q n = (false, 51) := fun h => by unfold M.Open; rw [if_pos h, if_neg hn]
    rw [e h1, e h2, e h4, awake6b]; rfl

theorem CalBoth (a : Int) (l : List S63) (c : Int) (m : List S63) (n : Int) (hl : wfL l) (hm : wfL m) : Ev (fun k => tenorlaw6_CalBoth.f k a l c m n) true := by
  refine Ev.congr (fun k => by unfold tenorlaw6_CalBoth.f; rfl) (Ev.bind (cJoin hl hm) ?_)
  by_cases h : (l.length : Int) > 64
  · exact Ev.congr (fun k => if_pos h) (CalBoth_j0t ..)
  · refine Ev.congr (fun k => if_neg h) ?_
    by_cases h2 : (m.length : Int) > 64
    · exact Ev.congr (fun k => if_pos h2) (CalBoth_j0t ..)
    · refine Ev.congr (fun k => if_neg h2) ?_
      by_cases h3 : (J a l c m).2.2 = 0
      · rw [bne_eq_false_iff_eq.2 h3]
        exact CalBoth_j0f n hl hm h3
      · rw [bne_iff_ne.2 h3]
        exact CalBoth_j0t ..
end Go.Proofs.Ytoncignjcgjhhaa.R
