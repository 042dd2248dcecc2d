/- Contracts and facts of functions of the program (calendar, dates and their documents), joined in one text by a program of this session. No condition but what each theorem states. -/
import Derived.Test.YtoncignjcgjhhaaZGE
import Derived.Test.YtoncignjcgjhhaaZGA
import Derived.Test.YtoncignjcgjhhaaZGD
set_option linter.unusedVariables false
set_option linter.unusedSimpArgs false
namespace Go.Proofs.Ytoncignjcgjhhaa.H
open Go.RowKit Go.Maps Go.Proofs.YtoncignjcgjhhaaW.PrintWords Go.Proofs.YtoncignjcgjhhaaW.PrintLast Go.Proofs.YtoncignjcgjhhaaW.PrintMore
open Go.Proofs.Ytoncignjcgjhhaa.Q (S63 k63 z63)

theorem fin {w w' : World} {o : Obj} {bb : Nat} {we : Int} {A : Option Addr} {c : Nat} {l : List S63} {n : Nat} (h : Book (w.alloc o) w' bb we A c l n) : Below w.heap.size w w' := below_step (below_alloc (Below.refl _ _) o) h.bel
theorem ret_bp {k : IntKind} {a : Bool} {b : Int} {q : Bool × Int} (h : (a, b) = q) : Ending.returned (.tuple #[.bool a, .int k b]) = .returned (.tuple #[.bool q.1, .int k q.2]) := by rw [← h]

set_option maxHeartbeats 2000000 in
set_option maxRecDepth 100000 in
/-- 'cal.Holiday'. -/
theorem Holiday_calls (we : Int) (A : Option Addr) (c : Nat) (l : List S63) (n : Int) (w : World) (hr : Kd.C k63 w A l.length l) (hw : ∀ x ∈ l, wfS x) :
    Calls Try.prog 35 #[.agg #[.int .i64 we, .slice A l.length c], .int .i64 n] w fun e w' => e = .returned (.tuple #[.bool (M.Holiday we (l.map ru) n).1, .int .i64 (M.Holiday we (l.map ru) n).2]) ∧ Below w.heap.size w w' := by
  have HR := Aside0.mk hr
  have HW := Aside0.mk hw
  clear hr hw
  by_cases hne : (M.chk we (l.map ru)).1 = 0
  rotate_left
  · have HT := Aside0.mk (show (false, (M.chk we (l.map ru)).1) = M.Holiday we (l.map ru) n by unfold M.Holiday; rw [if_neg hne])
    have hb : ((M.chk we (l.map ru)).1 != 0) = true := by simpa using hne
    have HN := Aside0.mk hne; clear hne
    go_enter Try.func35, Try.ntmps35
    go_wp2_with fail
    refine (begin_err we A c l _ (Kd.C_below HR.out (below_alloc (Below.refl _ _) _)) HW.out HN.out).mono ?_; rintro e w2 ⟨rfl, hb2⟩
    have HB2 := Aside0.mk (below_step (below_alloc (Below.refl _ _) _) hb2); clear hb2
    go_wp2_with fail
    go_ret2
    exact ⟨ret_bp HT.out, HB2.out⟩
  have HN := Aside0.mk hne
  have HU := Aside0.mk (show M.Holiday we (l.map ru) n = _ by unfold M.Holiday; rw [if_pos hne])
  clear hne
  by_cases hx : M.isDay n
  · have HT := Aside0.mk (show (M.hol we (l.map ru) n, 0) = M.Holiday we (l.map ru) n by rw [HU.out, if_pos hx])
    have HX := Aside0.mk hx
    have HDB := Aside0.mk (decide_eq_true (show 0 ≤ n ∧ n ≤ 109572 from hx)); clear hx
    go_enter Try.func35, Try.ntmps35
    go_wp2_with fail
    refine (begin_ok we A c l _ (Kd.C_below HR.out (below_alloc (Below.refl _ _) _)) HW.out HN.out).mono ?_; rintro e w2 ⟨bb, rfl, hb2⟩
    have HO := Aside0.mk (ok_of we A l _ (Kd.C_below HR.out (below_alloc (Below.refl w.heap.size w) (.cells #[.int .i64 we, .slice A l.length c] 24))) HW.out HN.out)
    have HB := Aside0.mk hb2; clear hb2
    go_wp2_with fail
    refine (is_calls _ _ HDB.out _).mono ?_; rintro e w3 ⟨rfl, ⟨q3, rfl⟩⟩
    go_wp2_with fail
    refine (holiday_calls _ _ bb we A c l 0 _ (by repeat (with_reducible first | exact HB.out | refine Book.drewN ?_ _ | refine Book.drew ?_)) HO.out HX.out (by unfold maxLen; omega)).mono ?_; rintro e w4 ⟨rfl, hb4⟩
    have HB4 := Aside0.mk hb4; clear hb4
    go_wp2_with fail
    go_ret2
    exact ⟨ret_bp HT.out, fin HB4.out⟩
  · have HT := Aside0.mk (show (false, 51) = M.Holiday we (l.map ru) n by rw [HU.out, if_neg hx])
    have HDB := Aside0.mk (decide_eq_false (show ¬ (0 ≤ n ∧ n ≤ 109572) from hx)); clear hx
    go_enter Try.func35, Try.ntmps35
    go_wp2_with fail
    refine (begin_ok we A c l _ (Kd.C_below HR.out (below_alloc (Below.refl _ _) _)) HW.out HN.out).mono ?_; rintro e w2 ⟨bb, rfl, hb2⟩
    have HO := Aside0.mk (ok_of we A l _ (Kd.C_below HR.out (below_alloc (Below.refl w.heap.size w) (.cells #[.int .i64 we, .slice A l.length c] 24))) HW.out HN.out)
    have HB := Aside0.mk hb2; clear hb2
    go_wp2_with fail
    refine (is_calls _ _ HDB.out _).mono ?_; rintro e w3 ⟨rfl, ⟨q3, rfl⟩⟩
    go_wp2_with fail
    go_ret2
    exact ⟨ret_bp HT.out, fin (HB.out.drewN _)⟩

set_option maxHeartbeats 2000000 in
set_option maxRecDepth 100000 in
/-- 'cal.Open'. -/
theorem Open_calls (we : Int) (A : Option Addr) (c : Nat) (l : List S63) (n : Int) (w : World) (hr : Kd.C k63 w A l.length l) (hw : ∀ x ∈ l, wfS x) :
    Calls Try.prog 33 #[.agg #[.int .i64 we, .slice A l.length c], .int .i64 n] w fun e w' => e = .returned (.tuple #[.bool (M.Open we (l.map ru) n).1, .int .i64 (M.Open we (l.map ru) n).2]) ∧ Below w.heap.size w w' := by
  have HR := Aside0.mk hr
  have HW := Aside0.mk hw
  clear hr hw
  by_cases hne : (M.chk we (l.map ru)).1 = 0
  rotate_left
  · have HT := Aside0.mk (show (false, (M.chk we (l.map ru)).1) = M.Open we (l.map ru) n by unfold M.Open; rw [if_neg hne])
    have hb : ((M.chk we (l.map ru)).1 != 0) = true := by simpa using hne
    have HN := Aside0.mk hne; clear hne
    go_enter Try.func33, Try.ntmps33
    go_wp2_with fail
    refine (begin_err we A c l _ (Kd.C_below HR.out (below_alloc (Below.refl _ _) _)) HW.out HN.out).mono ?_; rintro e w2 ⟨rfl, hb2⟩
    have HB2 := Aside0.mk (below_step (below_alloc (Below.refl _ _) _) hb2); clear hb2
    go_wp2_with fail
    go_ret2
    exact ⟨ret_bp HT.out, HB2.out⟩
  have HN := Aside0.mk hne
  have HU := Aside0.mk (show M.Open we (l.map ru) n = _ by unfold M.Open; rw [if_pos hne])
  clear hne
  by_cases hx : M.isDay n
  · have HT := Aside0.mk (show (M.isOpen we (l.map ru) n, 0) = M.Open we (l.map ru) n by rw [HU.out, if_pos hx])
    have HX := Aside0.mk hx
    have HDB := Aside0.mk (decide_eq_true (show 0 ≤ n ∧ n ≤ 109572 from hx)); clear hx
    go_enter Try.func33, Try.ntmps33
    go_wp2_with fail
    refine (begin_ok we A c l _ (Kd.C_below HR.out (below_alloc (Below.refl _ _) _)) HW.out HN.out).mono ?_; rintro e w2 ⟨bb, rfl, hb2⟩
    have HO := Aside0.mk (ok_of we A l _ (Kd.C_below HR.out (below_alloc (Below.refl w.heap.size w) (.cells #[.int .i64 we, .slice A l.length c] 24))) HW.out HN.out)
    have HB := Aside0.mk hb2; clear hb2
    go_wp2_with fail
    refine (is_calls _ _ HDB.out _).mono ?_; rintro e w3 ⟨rfl, ⟨q3, rfl⟩⟩
    go_wp2_with fail
    refine (open_calls _ _ bb we A c l 0 _ _ rfl (by repeat (with_reducible first | exact HB.out | refine Book.drewN ?_ _ | refine Book.drew ?_)) HO.out HX.out (by unfold maxLen; omega)).mono ?_; rintro e w4 ⟨rfl, hb4⟩
    have HB4 := Aside0.mk hb4; clear hb4
    go_wp2_with fail
    go_ret2
    exact ⟨ret_bp HT.out, fin HB4.out⟩
  · have HT := Aside0.mk (show (false, 51) = M.Open we (l.map ru) n by rw [HU.out, if_neg hx])
    have HDB := Aside0.mk (decide_eq_false (show ¬ (0 ≤ n ∧ n ≤ 109572) from hx)); clear hx
    go_enter Try.func33, Try.ntmps33
    go_wp2_with fail
    refine (begin_ok we A c l _ (Kd.C_below HR.out (below_alloc (Below.refl _ _) _)) HW.out HN.out).mono ?_; rintro e w2 ⟨bb, rfl, hb2⟩
    have HO := Aside0.mk (ok_of we A l _ (Kd.C_below HR.out (below_alloc (Below.refl w.heap.size w) (.cells #[.int .i64 we, .slice A l.length c] 24))) HW.out HN.out)
    have HB := Aside0.mk hb2; clear hb2
    go_wp2_with fail
    refine (is_calls _ _ HDB.out _).mono ?_; rintro e w3 ⟨rfl, ⟨q3, rfl⟩⟩
    go_wp2_with fail
    go_ret2
    exact ⟨ret_bp HT.out, fin (HB.out.drewN _)⟩

set_option maxHeartbeats 2000000 in
set_option maxRecDepth 100000 in
/-- 'cal.Adjust'. -/
theorem Adjust_calls (we : Int) (A : Option Addr) (c : Nat) (l : List S63) (n way : Int) (w : World) (hr : Kd.C k63 w A l.length l) (hw : ∀ x ∈ l, wfS x) :
    Calls Try.prog 38 #[.agg #[.int .i64 we, .slice A l.length c], .int .i64 n, .int .i64 way] w fun e w' => e = .returned (.tuple #[.int .i64 (M.Adjust we (l.map ru) n way).1, .int .i64 (M.Adjust we (l.map ru) n way).2]) ∧ Below w.heap.size w w' := by
  have HR := Aside0.mk hr
  have HW := Aside0.mk hw
  clear hr hw
  by_cases hne : (M.chk we (l.map ru)).1 = 0
  rotate_left
  · have HT := Aside0.mk (show (0, (M.chk we (l.map ru)).1) = M.Adjust we (l.map ru) n way by unfold M.Adjust; rw [if_neg hne])
    have hb : ((M.chk we (l.map ru)).1 != 0) = true := by simpa using hne
    have HN := Aside0.mk hne; clear hne
    go_enter Try.func38, Try.ntmps38
    go_wp2_with fail
    refine (begin_err we A c l _ (Kd.C_below HR.out (below_alloc (Below.refl _ _) _)) HW.out HN.out).mono ?_; rintro e w2 ⟨rfl, hb2⟩
    have HB2 := Aside0.mk (below_step (below_alloc (Below.refl _ _) _) hb2); clear hb2
    go_wp2_with fail
    go_ret2
    exact ⟨ret_pair HT.out, HB2.out⟩
  have HN := Aside0.mk hne
  have HU := Aside0.mk (show M.Adjust we (l.map ru) n way = _ by unfold M.Adjust; rw [if_pos hne])
  clear hne
  by_cases hk : way < 0 ∨ way > 4
  · have HT := Aside0.mk (show (0, 90) = M.Adjust we (l.map ru) n way by rw [HU.out, if_pos hk])
    by_cases h0 : way < 0
    · clear hk
      go_enter Try.func38, Try.ntmps38
      go_wp2_with fail
      refine (begin_ok we A c l _ (Kd.C_below HR.out (below_alloc (Below.refl _ _) _)) HW.out HN.out).mono ?_; rintro e w2 ⟨bb, rfl, hb2⟩
      have HO := Aside0.mk (ok_of we A l _ (Kd.C_below HR.out (below_alloc (Below.refl w.heap.size w) (.cells #[.int .i64 we, .slice A l.length c] 24))) HW.out HN.out)
      have HB := Aside0.mk hb2; clear hb2
      go_wp2_with fail
      go_ret2
      exact ⟨ret_pair HT.out, fin HB.out⟩
    · have h4 : 4 < way := by omega
      clear hk
      go_enter Try.func38, Try.ntmps38
      go_wp2_with fail
      refine (begin_ok we A c l _ (Kd.C_below HR.out (below_alloc (Below.refl _ _) _)) HW.out HN.out).mono ?_; rintro e w2 ⟨bb, rfl, hb2⟩
      have HO := Aside0.mk (ok_of we A l _ (Kd.C_below HR.out (below_alloc (Below.refl w.heap.size w) (.cells #[.int .i64 we, .slice A l.length c] 24))) HW.out HN.out)
      have HB := Aside0.mk hb2; clear hb2
      go_wp2_with fail
      go_ret2
      exact ⟨ret_pair HT.out, fin HB.out⟩
  have hk0 : ¬ way < 0 := by omega
  have hk4 : ¬ 4 < way := by omega
  by_cases hx : M.isDay n
  rotate_left
  · have HT := Aside0.mk (show (0, 51) = M.Adjust we (l.map ru) n way by rw [HU.out, if_neg hk, if_neg hx])
    have HDB := Aside0.mk (decide_eq_false (show ¬ (0 ≤ n ∧ n ≤ 109572) from hx)); clear hx hk
    go_enter Try.func38, Try.ntmps38
    go_wp2_with fail
    refine (begin_ok we A c l _ (Kd.C_below HR.out (below_alloc (Below.refl _ _) _)) HW.out HN.out).mono ?_; rintro e w2 ⟨bb, rfl, hb2⟩
    have HO := Aside0.mk (ok_of we A l _ (Kd.C_below HR.out (below_alloc (Below.refl w.heap.size w) (.cells #[.int .i64 we, .slice A l.length c] 24))) HW.out HN.out)
    have HB := Aside0.mk hb2; clear hb2
    go_wp2_with fail
    refine (is_calls _ _ HDB.out _).mono ?_; rintro e w3 ⟨rfl, ⟨q3, rfl⟩⟩
    go_wp2_with fail
    go_ret2
    exact ⟨ret_pair HT.out, fin (HB.out.drewN _)⟩
  have HX := Aside0.mk hx
  have hx0 : -1 ≤ n := by have := hx.1; omega
  have hx1 : n ≤ 109573 := by have := hx.2; omega
  have HDB := Aside0.mk (decide_eq_true (show 0 ≤ n ∧ n ≤ 109572 from hx))
  have HV := Aside0.mk (show M.Adjust we (l.map ru) n way = _ by rw [HU.out, if_neg hk, if_pos hx])
  clear hx hk HU
  have hw5 : way = 1 ∨ way = 2 ∨ way = 3 ∨ way = 4 ∨ way = 0 := by omega
  rcases hw5 with rfl | rfl | rfl | rfl | rfl
  · have HT := Aside0.mk (show M.next we (l.map ru) n 1 = M.Adjust we (l.map ru) n 1 by rw [HV.out]; rfl)
    clear HV
    go_enter Try.func38, Try.ntmps38
    go_wp2_with fail
    refine (begin_ok we A c l _ (Kd.C_below HR.out (below_alloc (Below.refl _ _) _)) HW.out HN.out).mono ?_; rintro e w2 ⟨bb, rfl, hb2⟩
    have HO := Aside0.mk (ok_of we A l _ (Kd.C_below HR.out (below_alloc (Below.refl w.heap.size w) (.cells #[.int .i64 we, .slice A l.length c] 24))) HW.out HN.out)
    have HB := Aside0.mk hb2; clear hb2
    go_wp2_with fail
    refine (is_calls _ _ HDB.out _).mono ?_; rintro e w3 ⟨rfl, ⟨q3, rfl⟩⟩
    go_wp2_with fail
    refine (next_calls _ _ bb we A c l 0 _ _ (by repeat (with_reducible first | exact HB.out | refine Book.drewN ?_ _ | refine Book.drew ?_)) HO.out (.inl rfl) hx0 hx1 (by unfold maxLen; omega)).mono ?_; rw [HT.out]; rintro e w4 ⟨rfl, hb4⟩
    have HB4 := Aside0.mk hb4; clear hb4
    go_wp2_with fail
    go_ret2
    exact ⟨rfl, fin HB4.out⟩
  · have HT := Aside0.mk (show M.next we (l.map ru) n (-1) = M.Adjust we (l.map ru) n 2 by rw [HV.out]; rfl)
    clear HV
    go_enter Try.func38, Try.ntmps38
    go_wp2_with fail
    refine (begin_ok we A c l _ (Kd.C_below HR.out (below_alloc (Below.refl _ _) _)) HW.out HN.out).mono ?_; rintro e w2 ⟨bb, rfl, hb2⟩
    have HO := Aside0.mk (ok_of we A l _ (Kd.C_below HR.out (below_alloc (Below.refl w.heap.size w) (.cells #[.int .i64 we, .slice A l.length c] 24))) HW.out HN.out)
    have HB := Aside0.mk hb2; clear hb2
    go_wp2_with fail
    refine (is_calls _ _ HDB.out _).mono ?_; rintro e w3 ⟨rfl, ⟨q3, rfl⟩⟩
    go_wp2_with fail
    refine (next_calls _ _ bb we A c l 0 _ _ (by repeat (with_reducible first | exact HB.out | refine Book.drewN ?_ _ | refine Book.drew ?_)) HO.out (.inr rfl) hx0 hx1 (by unfold maxLen; omega)).mono ?_; rw [HT.out]; rintro e w4 ⟨rfl, hb4⟩
    have HB4 := Aside0.mk hb4; clear hb4
    go_wp2_with fail
    go_ret2
    exact ⟨rfl, fin HB4.out⟩
  · have HT := Aside0.mk (show M.kept we (l.map ru) n 1 = M.Adjust we (l.map ru) n 3 by rw [HV.out]; rfl)
    clear HV
    go_enter Try.func38, Try.ntmps38
    go_wp2_with fail
    refine (begin_ok we A c l _ (Kd.C_below HR.out (below_alloc (Below.refl _ _) _)) HW.out HN.out).mono ?_; rintro e w2 ⟨bb, rfl, hb2⟩
    have HO := Aside0.mk (ok_of we A l _ (Kd.C_below HR.out (below_alloc (Below.refl w.heap.size w) (.cells #[.int .i64 we, .slice A l.length c] 24))) HW.out HN.out)
    have HB := Aside0.mk hb2; clear hb2
    go_wp2_with fail
    refine (is_calls _ _ HDB.out _).mono ?_; rintro e w3 ⟨rfl, ⟨q3, rfl⟩⟩
    go_wp2_with fail
    refine (kept_calls _ _ bb we A c l 0 _ _ (by repeat (with_reducible first | exact HB.out | refine Book.drewN ?_ _ | refine Book.drew ?_)) HO.out (.inl rfl) HX.out (by unfold maxLen; omega)).mono ?_; rw [HT.out]; rintro e w4 ⟨rfl, hb4⟩
    have HB4 := Aside0.mk hb4; clear hb4
    go_wp2_with fail
    go_ret2
    exact ⟨rfl, fin HB4.out⟩
  · have HT := Aside0.mk (show M.kept we (l.map ru) n (-1) = M.Adjust we (l.map ru) n 4 by rw [HV.out]; rfl)
    clear HV
    go_enter Try.func38, Try.ntmps38
    go_wp2_with fail
    refine (begin_ok we A c l _ (Kd.C_below HR.out (below_alloc (Below.refl _ _) _)) HW.out HN.out).mono ?_; rintro e w2 ⟨bb, rfl, hb2⟩
    have HO := Aside0.mk (ok_of we A l _ (Kd.C_below HR.out (below_alloc (Below.refl w.heap.size w) (.cells #[.int .i64 we, .slice A l.length c] 24))) HW.out HN.out)
    have HB := Aside0.mk hb2; clear hb2
    go_wp2_with fail
    refine (is_calls _ _ HDB.out _).mono ?_; rintro e w3 ⟨rfl, ⟨q3, rfl⟩⟩
    go_wp2_with fail
    refine (kept_calls _ _ bb we A c l 0 _ _ (by repeat (with_reducible first | exact HB.out | refine Book.drewN ?_ _ | refine Book.drew ?_)) HO.out (.inr rfl) HX.out (by unfold maxLen; omega)).mono ?_; rw [HT.out]; rintro e w4 ⟨rfl, hb4⟩
    have HB4 := Aside0.mk hb4; clear hb4
    go_wp2_with fail
    go_ret2
    exact ⟨rfl, fin HB4.out⟩
  · have HT := Aside0.mk (show (n, 0) = M.Adjust we (l.map ru) n 0 by rw [HV.out]; rfl)
    clear HV
    go_enter Try.func38, Try.ntmps38
    go_wp2_with fail
    refine (begin_ok we A c l _ (Kd.C_below HR.out (below_alloc (Below.refl _ _) _)) HW.out HN.out).mono ?_; rintro e w2 ⟨bb, rfl, hb2⟩
    have HO := Aside0.mk (ok_of we A l _ (Kd.C_below HR.out (below_alloc (Below.refl w.heap.size w) (.cells #[.int .i64 we, .slice A l.length c] 24))) HW.out HN.out)
    have HB := Aside0.mk hb2; clear hb2
    go_wp2_with fail
    refine (is_calls _ _ HDB.out _).mono ?_; rintro e w3 ⟨rfl, ⟨q3, rfl⟩⟩
    go_wp2_with fail
    go_ret2
    exact ⟨ret_pair HT.out, fin (HB.out.drewN _)⟩

end Go.Proofs.Ytoncignjcgjhhaa.H

namespace Go.Proofs.Ytoncignjcgjhhaa.H
open Go.RowKit Go.Maps Go.Proofs.YtoncignjcgjhhaaW.PrintWords Go.Proofs.YtoncignjcgjhhaaW.PrintLast Go.Proofs.YtoncignjcgjhhaaW.PrintMore
open Go.Proofs.Ytoncignjcgjhhaa.Q (S63 k63 z63)
attribute [local go_sem] max2_int min2_int

theorem cntF_on {we : Int} {l : List M.Rul} {f : Nat} {i s t : Int} (h : s + M.cntF we l f i = t) (hf : f ≠ 0) : (M.isOpen we l i = true → s + 1 + M.cntF we l (f - 1) (i + 1) = t) ∧ (M.isOpen we l i = false → s + M.cntF we l (f - 1) (i + 1) = t) := by
  obtain ⟨k, rfl⟩ : ∃ k, f = k + 1 := ⟨f - 1, by omega⟩
  unfold M.cntF at h
  constructor
  · intro ho; rw [if_pos ho] at h; simp only [Nat.add_sub_cancel]; omega
  · intro ho; rw [if_neg (by simp [ho])] at h; simp only [Nat.add_sub_cancel]; omega

set_option maxHeartbeats 2000000 in
set_option maxRecDepth 100000 in
/-- 'cal.Count'. -/
theorem Count_calls (we : Int) (A : Option Addr) (c : Nat) (l : List S63) (a z : Int) (w : World) (hr : Kd.C k63 w A l.length l) (hw : ∀ x ∈ l, wfS x) :
    Calls Try.prog 42 #[.agg #[.int .i64 we, .slice A l.length c], .int .i64 a, .int .i64 z] w fun e w' => e = .returned (.tuple #[.int .i64 (M.Count we (l.map ru) a z).1, .int .i64 (M.Count we (l.map ru) a z).2]) ∧ Below w.heap.size w w' := by
  have HR := Aside0.mk hr
  have HW := Aside0.mk hw
  clear hr hw
  by_cases hne : (M.chk we (l.map ru)).1 = 0
  rotate_left
  · have HT := Aside0.mk (show (0, (M.chk we (l.map ru)).1) = M.Count we (l.map ru) a z by unfold M.Count; rw [if_neg hne])
    have hb : ((M.chk we (l.map ru)).1 != 0) = true := by simpa using hne
    have HN := Aside0.mk hne; clear hne
    go_enter Try.func42, Try.ntmps42
    go_wp2_with fail
    refine (begin_err we A c l _ (Kd.C_below HR.out (below_alloc (Below.refl _ _) _)) HW.out HN.out).mono ?_; rintro e w2 ⟨rfl, hb2⟩
    have HB2 := Aside0.mk (below_step (below_alloc (Below.refl _ _) _) hb2); clear hb2
    go_wp2_with fail
    go_ret2
    exact ⟨ret_pair HT.out, HB2.out⟩
  have HN := Aside0.mk hne
  have HU := Aside0.mk (show M.Count we (l.map ru) a z = _ by unfold M.Count; rw [if_pos hne])
  clear hne
  by_cases ha : M.isDay a
  rotate_left
  · have HT := Aside0.mk (show (0, 51) = M.Count we (l.map ru) a z by rw [HU.out, if_neg (fun h => ha h.1)])
    have HDB := Aside0.mk (decide_eq_false (show ¬ (0 ≤ a ∧ a ≤ 109572) from ha)); clear ha
    go_enter Try.func42, Try.ntmps42
    go_wp2_with fail
    refine (begin_ok we A c l _ (Kd.C_below HR.out (below_alloc (Below.refl _ _) _)) HW.out HN.out).mono ?_; rintro e w2 ⟨bb, rfl, hb2⟩
    have HO := Aside0.mk (ok_of we A l _ (Kd.C_below HR.out (below_alloc (Below.refl w.heap.size w) (.cells #[.int .i64 we, .slice A l.length c] 24))) HW.out HN.out)
    have HB := Aside0.mk hb2; clear hb2
    go_wp2_with fail
    refine (is_calls _ _ HDB.out _).mono ?_; rintro e w3 ⟨rfl, ⟨q3, rfl⟩⟩
    go_wp2_with fail
    go_ret2
    exact ⟨ret_pair HT.out, fin (HB.out.drewN _)⟩
  have HDA := Aside0.mk (decide_eq_true (show 0 ≤ a ∧ a ≤ 109572 from ha))
  by_cases hz : M.isDay z
  rotate_left
  · have HT := Aside0.mk (show (0, 51) = M.Count we (l.map ru) a z by rw [HU.out, if_neg (fun h => hz h.2)])
    have HDB := Aside0.mk (decide_eq_false (show ¬ (0 ≤ z ∧ z ≤ 109572) from hz)); clear ha hz
    go_enter Try.func42, Try.ntmps42
    go_wp2_with fail
    refine (begin_ok we A c l _ (Kd.C_below HR.out (below_alloc (Below.refl _ _) _)) HW.out HN.out).mono ?_; rintro e w2 ⟨bb, rfl, hb2⟩
    have HO := Aside0.mk (ok_of we A l _ (Kd.C_below HR.out (below_alloc (Below.refl w.heap.size w) (.cells #[.int .i64 we, .slice A l.length c] 24))) HW.out HN.out)
    have HB := Aside0.mk hb2; clear hb2
    go_wp2_with fail
    refine (is_calls _ _ HDA.out _).mono ?_; rintro e w3 ⟨rfl, ⟨q3, rfl⟩⟩
    go_wp2_with fail
    refine (is_calls _ _ HDB.out _).mono ?_; rintro e w4 ⟨rfl, ⟨q4, rfl⟩⟩
    go_wp2_with fail
    go_ret2
    exact ⟨ret_pair HT.out, fin (HB.out.drewN _)⟩
  have HDB := Aside0.mk (decide_eq_true (show 0 ≤ z ∧ z ≤ 109572 from hz))
  have HV := Aside0.mk (show M.Count we (l.map ru) a z = _ by rw [HU.out, if_pos ⟨ha, hz⟩])
  have ha0 := ha.1; have ha1 := ha.2; have hz0 := hz.1; have hz1 := hz.2
  clear ha hz HU
  by_cases hlt0 : z < a
  · have HT := Aside0.mk (show (-(M.cntF we (l.map ru) (a - z).toNat z), 0) = M.Count we (l.map ru) a z by rw [HV.out, if_pos hlt0])
    clear HV
    go_enter Try.func42, Try.ntmps42
    go_wp2_with fail
    refine (begin_ok we A c l _ (Kd.C_below HR.out (below_alloc (Below.refl _ _) _)) HW.out HN.out).mono ?_; rintro e w2 ⟨bb, rfl, hb2⟩
    have HO := Aside0.mk (ok_of we A l _ (Kd.C_below HR.out (below_alloc (Below.refl w.heap.size w) (.cells #[.int .i64 we, .slice A l.length c] 24))) HW.out HN.out)
    have HB := Aside0.mk hb2; clear hb2
    go_wp2_with fail
    refine (is_calls _ _ HDA.out _).mono ?_; rintro e w3 ⟨rfl, ⟨q3, rfl⟩⟩
    go_wp2_with fail
    refine (is_calls _ _ HDB.out _).mono ?_; rintro e w4 ⟨rfl, ⟨q4, rfl⟩⟩
    go_wp2_with fail
    go_loopg [10, 11] (a - z).toNat (fun kq v1 v2 w' => ∃ s i : Int, 0 ≤ s ∧ s ≤ i ∧ z ≤ i ∧ i ≤ a ∧ a - i = kq ∧ kq ≤ 109580 ∧ v1 = .int .i64 s ∧ v2 = .int .i64 i ∧ Aside0 (s + M.cntF we (l.map ru) kq i = M.cntF we (l.map ru) (a - z).toNat z) ∧ Aside0 (Book (w.alloc (.cells #[.int .i64 we, .slice A l.length c] 24)) w' bb we A c l (200 * (109580 - kq))))
    case atStart => exact ⟨0, z, by omega, by omega, by omega, by omega, by omega, by omega, rfl, rfl, ⟨by omega⟩, ⟨Book.mono (n := 0) (by repeat (with_reducible first | exact HB.out | refine Book.drewN ?_ _ | refine Book.drew ?_)) (by omega)⟩⟩
    case round =>
      obtain ⟨s, i, hs0, hs1, hi0, hi1, hik, hkq, rfl, rfl, HF, HB2⟩ := hrel
      clear HB
      by_cases hlt : i < a
      · have hgk : gk ≠ 0 := by omega
        obtain ⟨hs1, hs2⟩ := cntF_on HF.out hgk
        have hday : M.isDay i := ⟨by omega, by omega⟩
        have HDY := Aside0.mk hday
        clear hday
        cases ho : M.isOpen we (l.map ru) i with
        | true =>
          have HE := Aside0.mk (hs1 ho); have HH := Aside0.mk ho; clear hs1 hs2 ho
          go_wp2_with fail
          refine (open_calls _ _ bb we A c l (200 * (109580 - gk)) _ _ HH.out HB2.out HO.out HDY.out (by unfold maxLen; omega)).mono ?_; rintro e w5 ⟨rfl, hb5⟩
          have HB5 := Aside0.mk hb5; clear hb5
          go_wp2_with fail
          go_roundg (gk - 1)
          case measure => omega
          case rel => exact ⟨s + 1, i + 1, by omega, by omega, by omega, by omega, by omega, by omega, by go_num, by go_num, HE, ⟨HB5.out.mono (by omega)⟩⟩
        | false =>
          have HE := Aside0.mk (hs2 ho); have HH := Aside0.mk ho; clear hs1 hs2 ho
          go_wp2_with fail
          refine (open_calls _ _ bb we A c l (200 * (109580 - gk)) _ _ HH.out HB2.out HO.out HDY.out (by unfold maxLen; omega)).mono ?_; rintro e w5 ⟨rfl, hb5⟩
          have HB5 := Aside0.mk hb5; clear hb5
          go_wp2_with fail
          go_roundg (gk - 1)
          case measure => omega
          case rel => exact ⟨s, i + 1, by omega, by omega, by omega, by omega, by omega, by omega, rfl, by go_num, HE, ⟨HB5.out.mono (by omega)⟩⟩
      · have hgk : gk = 0 := by omega
        subst hgk
        have HE := Aside0.mk (show (-s, 0) = M.Count we (l.map ru) a z by rw [← HT.out, ← HF.out]; simp [M.cntF])
        go_wp2_with fail
        all_goals (go_ret2; exact ⟨ret_pair HE.out, fin HB2.out⟩)
  · have HT := Aside0.mk (show (M.cntF we (l.map ru) (z - a).toNat a, 0) = M.Count we (l.map ru) a z by rw [HV.out, if_neg hlt0])
    clear HV
    go_enter Try.func42, Try.ntmps42
    go_wp2_with fail
    refine (begin_ok we A c l _ (Kd.C_below HR.out (below_alloc (Below.refl _ _) _)) HW.out HN.out).mono ?_; rintro e w2 ⟨bb, rfl, hb2⟩
    have HO := Aside0.mk (ok_of we A l _ (Kd.C_below HR.out (below_alloc (Below.refl w.heap.size w) (.cells #[.int .i64 we, .slice A l.length c] 24))) HW.out HN.out)
    have HB := Aside0.mk hb2; clear hb2
    go_wp2_with fail
    refine (is_calls _ _ HDA.out _).mono ?_; rintro e w3 ⟨rfl, ⟨q3, rfl⟩⟩
    go_wp2_with fail
    refine (is_calls _ _ HDB.out _).mono ?_; rintro e w4 ⟨rfl, ⟨q4, rfl⟩⟩
    go_wp2_with fail
    go_loopg [10, 11] (z - a).toNat (fun kq v1 v2 w' => ∃ s i : Int, 0 ≤ s ∧ s ≤ i ∧ a ≤ i ∧ i ≤ z ∧ z - i = kq ∧ kq ≤ 109580 ∧ v1 = .int .i64 s ∧ v2 = .int .i64 i ∧ Aside0 (s + M.cntF we (l.map ru) kq i = M.cntF we (l.map ru) (z - a).toNat a) ∧ Aside0 (Book (w.alloc (.cells #[.int .i64 we, .slice A l.length c] 24)) w' bb we A c l (200 * (109580 - kq))))
    case atStart => exact ⟨0, a, by omega, by omega, by omega, by omega, by omega, by omega, rfl, rfl, ⟨by omega⟩, ⟨Book.mono (n := 0) (by repeat (with_reducible first | exact HB.out | refine Book.drewN ?_ _ | refine Book.drew ?_)) (by omega)⟩⟩
    case round =>
      obtain ⟨s, i, hs0, hs1, hi0, hi1, hik, hkq, rfl, rfl, HF, HB2⟩ := hrel
      clear HB
      by_cases hlt : i < z
      · have hgk : gk ≠ 0 := by omega
        obtain ⟨hs1, hs2⟩ := cntF_on HF.out hgk
        have hday : M.isDay i := ⟨by omega, by omega⟩
        have HDY := Aside0.mk hday
        clear hday
        cases ho : M.isOpen we (l.map ru) i with
        | true =>
          have HE := Aside0.mk (hs1 ho); have HH := Aside0.mk ho; clear hs1 hs2 ho
          go_wp2_with fail
          refine (open_calls _ _ bb we A c l (200 * (109580 - gk)) _ _ HH.out HB2.out HO.out HDY.out (by unfold maxLen; omega)).mono ?_; rintro e w5 ⟨rfl, hb5⟩
          have HB5 := Aside0.mk hb5; clear hb5
          go_wp2_with fail
          go_roundg (gk - 1)
          case measure => omega
          case rel => exact ⟨s + 1, i + 1, by omega, by omega, by omega, by omega, by omega, by omega, by go_num, by go_num, HE, ⟨HB5.out.mono (by omega)⟩⟩
        | false =>
          have HE := Aside0.mk (hs2 ho); have HH := Aside0.mk ho; clear hs1 hs2 ho
          go_wp2_with fail
          refine (open_calls _ _ bb we A c l (200 * (109580 - gk)) _ _ HH.out HB2.out HO.out HDY.out (by unfold maxLen; omega)).mono ?_; rintro e w5 ⟨rfl, hb5⟩
          have HB5 := Aside0.mk hb5; clear hb5
          go_wp2_with fail
          go_roundg (gk - 1)
          case measure => omega
          case rel => exact ⟨s, i + 1, by omega, by omega, by omega, by omega, by omega, by omega, rfl, by go_num, HE, ⟨HB5.out.mono (by omega)⟩⟩
      · have hgk : gk = 0 := by omega
        subst hgk
        have HE := Aside0.mk (show (s, 0) = M.Count we (l.map ru) a z by rw [← HT.out, ← HF.out]; simp [M.cntF])
        go_wp2_with fail
        all_goals (go_ret2; exact ⟨ret_pair HE.out, fin HB2.out⟩)

end Go.Proofs.Ytoncignjcgjhhaa.H

namespace Go.Proofs.Ytoncignjcgjhhaa.Q
open Go.RowKit Go.Proofs.YtoncignjcgjhhaaW.PrintWords Go.Proofs.YtoncignjcgjhhaaW.PrintLast Go.Proofs.YtoncignjcgjhhaaW.PrintMore
attribute [local go_sem] max2_int min2_int max_two min_two max_three min_three max_four min_four   -- for this text's walks alone
set_option linter.unusedVariables false
set_option linter.unusedSimpArgs false

def cal_Count.f (a0_0 : Int) (l0_1 : List S63) (a1 : Int) (a2 : Int) : Option (Int × Int) := if wfL l0_1 then some (Go.Proofs.Ytoncignjcgjhhaa.M.Count a0_0 (l0_1.map Go.Proofs.Ytoncignjcgjhhaa.H.ru) a1 a2) else none
theorem cal_Count.calls (a0_0 : Int) (A0_1 : Option Addr) (c0_1 : Nat) (l0_1 : List (S63)) (a1 : Int) (a2 : Int) (r1 : Int) (r2 : Int) (w : World) (hr0_1 : Kd.C k63 w A0_1 l0_1.length l0_1) (hc0_1 : l0_1.length ≤ c0_1) (h : cal_Count.f a0_0 l0_1 a1 a2 = some (r1, r2)) :
    Calls Try.prog 42 #[.agg #[.int .i64 a0_0, .slice A0_1 l0_1.length c0_1], .int .i64 a1, .int .i64 a2] w fun e w' => e = .returned (.tuple #[.int .i64 r1, .int .i64 r2]) ∧ Below w.heap.size w w' := by
  unfold cal_Count.f at h
  split at h
  · rename_i hc
    have e := Option.some.inj h
    have c := Go.Proofs.Ytoncignjcgjhhaa.H.Count_calls a0_0 A0_1 c0_1 l0_1 a1 a2 w hr0_1 (wfL_mem hc)
    rw [e] at c
    exact c
  · cases h

end Go.Proofs.Ytoncignjcgjhhaa.Q

namespace Go.Proofs.Ytoncignjcgjhhaa.Q
open Go.RowKit Go.Proofs.YtoncignjcgjhhaaW.PrintWords Go.Proofs.YtoncignjcgjhhaaW.PrintLast Go.Proofs.YtoncignjcgjhhaaW.PrintMore
attribute [local go_sem] max2_int min2_int max_two min_two max_three min_three max_four min_four   -- for this text's walks alone
set_option linter.unusedVariables false
set_option linter.unusedSimpArgs false

/-! ### tenorref6_in: function 79 -/
def tenorref6_in.f (a0 : Int) (a1 : Int) (a2 : Int) : Option (Bool) := if a0 ≥ a1 then (some (decide (a0 ≤ a2))) else (some false)
set_option maxHeartbeats 8000000 in
set_option maxRecDepth 100000 in
theorem tenorref6_in.calls (a0 : Int) (a1 : Int) (a2 : Int) (r : Bool) (w : World) (h : tenorref6_in.f a0 a1 a2 = some r) :
    Calls Try.prog 79 #[.int .i64 a0, .int .i64 a1, .int .i64 a2] w fun e w' => e = .returned (.bool r) ∧ Drawn0 w w' := by
  have H : (if a0 ≥ a1 then (some (decide (a0 ≤ a2))) else (some false)) = some r := h
  clear h
  by_cases c4 : a0 ≥ a1
  · rw [if_pos c4] at H
    have c4b0 : decide (a1 ≤ a0) = true := decide_eq_true c4
    clear c4
    obtain rfl := Option.some.inj H
    go_enter Try.func79, Try.ntmps79
    go_wp2
    go_ret
    exact ⟨by first | rfl | (simp; done) | (simp [*]; done), by repeat (first | exact Drawn0.refl _ | apply Drawn0.step)⟩
  · rw [if_neg c4] at H
    have c4b0 : decide (a1 ≤ a0) = false := decide_eq_false c4
    clear c4
    obtain rfl := Option.some.inj H
    go_enter Try.func79, Try.ntmps79
    go_wp2
    go_ret
    exact ⟨by first | rfl | (simp; done) | (simp [*]; done), by repeat (first | exact Drawn0.refl _ | apply Drawn0.step)⟩

end Go.Proofs.Ytoncignjcgjhhaa.Q

namespace Go.Proofs.Ytoncignjcgjhhaa.Q
open Go.RowKit Go.Proofs.YtoncignjcgjhhaaW.PrintWords Go.Proofs.YtoncignjcgjhhaaW.PrintLast Go.Proofs.YtoncignjcgjhhaaW.PrintMore
attribute [local go_sem] max2_int min2_int max_two min_two max_three min_three max_four min_four   -- for this text's walks alone
set_option linter.unusedVariables false
set_option linter.unusedSimpArgs false

theorem eqA63 (d : Nat) (w : World) (x0 y0 : Int) (x1 y1 : Int) (x2 y2 : Int) (x3 y3 : Int) (x4 y4 : Int) (x5 y5 : Int) (x6 y6 : Int) (x7 y7 : Int) (x8 y8 : Int) :
    (Op.equalIn (d + 2) 63 (.agg #[.int .i64 x0, .int .i64 x1, .int .i64 x2, .int .i64 x3, .int .i64 x4, .int .i64 x5, .int .i64 x6, .int .i64 x7, .int .i64 x8]) (.agg #[.int .i64 y0, .int .i64 y1, .int .i64 y2, .int .i64 y3, .int .i64 y4, .int .i64 y5, .int .i64 y6, .int .i64 y7, .int .i64 y8])).run Try.prog w = .ok (x0 == y0 && (x1 == y1 && (x2 == y2 && (x3 == y3 && (x4 == y4 && (x5 == y5 && (x6 == y6 && (x7 == y7 && (x8 == y8))))))))) w := by
  refine eqA_of Try.underlying63 (by kernel_rfl) ?_
  refine eqf_cons (by rfl) (by go_simp; rfl) (by go_simp; rfl) (by go_simp) ?_
  refine eqf_cons (by rfl) (by go_simp; rfl) (by go_simp; rfl) (by go_simp) ?_
  refine eqf_cons (by rfl) (by go_simp; rfl) (by go_simp; rfl) (by go_simp) ?_
  refine eqf_cons (by rfl) (by go_simp; rfl) (by go_simp; rfl) (by go_simp) ?_
  refine eqf_cons (by rfl) (by go_simp; rfl) (by go_simp; rfl) (by go_simp) ?_
  refine eqf_cons (by rfl) (by go_simp; rfl) (by go_simp; rfl) (by go_simp) ?_
  refine eqf_cons (by rfl) (by go_simp; rfl) (by go_simp; rfl) (by go_simp) ?_
  refine eqf_cons (by rfl) (by go_simp; rfl) (by go_simp; rfl) (by go_simp) ?_
  exact eqf_last (by rfl) (by go_simp; rfl) (by go_simp; rfl) (by go_simp)
end Go.Proofs.Ytoncignjcgjhhaa.Q

namespace Go.Proofs.Ytoncignjcgjhhaa.H
open Go.RowKit Go.Maps Go.Proofs.YtoncignjcgjhhaaW.PrintWords Go.Proofs.YtoncignjcgjhhaaW.PrintLast Go.Proofs.YtoncignjcgjhhaaW.PrintMore
open Go.Proofs.Ytoncignjcgjhhaa.Q (S63 k63 z63 eqA63)
attribute [local go_sem high] eqA63

theorem in6_calls (a b c : Int) (r : Bool) (hr : decide (b ≤ a ∧ a ≤ c) = r) (w : World) :
    Calls Try.prog 79 #[.int .i64 a, .int .i64 b, .int .i64 c] w fun e w' => e = .returned (.bool r) ∧ Drawn0 w w' :=
  Q.tenorref6_in.calls a b c r w (by have := L.within a b c; unfold Q.cal_within.f at this; unfold Q.tenorref6_in.f; rw [this, hr])

/-- What such a call tells. -/
def Fits (b : Bool) (w : World) (e : Ending) (w' : World) : Prop := e = .returned (.bool b) ∧ Below w.heap.size w w'

set_option maxHeartbeats 1000000 in
set_option maxRecDepth 100000 in
theorem fit_4 (a1 a2 a3 a4 a5 a6 a7 a8 : Int) (w : World) (b : Bool) (hb : decide (0 ≤ a2 ∧ a2 ≤ 109572) = b) (hz : a1 = 0 ∧ a3 = 0 ∧ a4 = 0 ∧ a5 = 0 ∧ a6 = 0 ∧ a7 = 0 ∧ a8 = 0) :
    Calls Try.prog 85 #[.agg #[.int .i64 4, .int .i64 a1, .int .i64 a2, .int .i64 a3, .int .i64 a4, .int .i64 a5, .int .i64 a6, .int .i64 a7, .int .i64 a8]] w (Fits b w) := by
  obtain ⟨rfl, rfl, rfl, rfl, rfl, rfl, rfl⟩ := hz
  go_enter Try.func85, Try.ntmps85
  go_wp2_with (go_at_call 79; refine (in6_calls _ _ _ _ (by assumption) _).mono ?_; rintro e w' ⟨rfl, ⟨n0, rfl⟩⟩)
  go_ret
  exact ⟨rfl, by repeat (with_reducible first | exact Below.refl _ _ | apply pw_below_drewN | apply below_drew1 | apply below_alloc | refine below_set ?_ (by simp))⟩
set_option maxHeartbeats 2000000 in
set_option maxRecDepth 100000 in
theorem fit_4n0 (a1 a2 a3 a4 a5 a6 a7 a8 : Int) (w : World) (hz : ¬ a1 = 0) : Calls Try.prog 85 #[.agg #[.int .i64 4, .int .i64 a1, .int .i64 a2, .int .i64 a3, .int .i64 a4, .int .i64 a5, .int .i64 a6, .int .i64 a7, .int .i64 a8]] w (Fits false w) := by
  have kz : (a1 == 0) = false := by simpa using hz
  clear hz
  go_enter Try.func85, Try.ntmps85
  go_wp2_with (go_at_call 79; refine (in6_calls _ _ _ _ (by assumption) _).mono ?_; rintro e w' ⟨rfl, ⟨n0, rfl⟩⟩)
  go_ret
  exact ⟨rfl, by repeat (with_reducible first | exact Below.refl _ _ | apply pw_below_drewN | apply below_drew1 | apply below_alloc | refine below_set ?_ (by simp))⟩
set_option maxHeartbeats 2000000 in
set_option maxRecDepth 100000 in
theorem fit_4n1 (a2 a3 a4 a5 a6 a7 a8 : Int) (w : World) (hz : ¬ a3 = 0) : Calls Try.prog 85 #[.agg #[.int .i64 4, .int .i64 0, .int .i64 a2, .int .i64 a3, .int .i64 a4, .int .i64 a5, .int .i64 a6, .int .i64 a7, .int .i64 a8]] w (Fits false w) := by
  have kz : (a3 == 0) = false := by simpa using hz
  clear hz
  go_enter Try.func85, Try.ntmps85
  go_wp2_with (go_at_call 79; refine (in6_calls _ _ _ _ (by assumption) _).mono ?_; rintro e w' ⟨rfl, ⟨n0, rfl⟩⟩)
  go_ret
  exact ⟨rfl, by repeat (with_reducible first | exact Below.refl _ _ | apply pw_below_drewN | apply below_drew1 | apply below_alloc | refine below_set ?_ (by simp))⟩
set_option maxHeartbeats 2000000 in
set_option maxRecDepth 100000 in
theorem fit_4n2 (a2 a4 a5 a6 a7 a8 : Int) (w : World) (hz : ¬ a4 = 0) : Calls Try.prog 85 #[.agg #[.int .i64 4, .int .i64 0, .int .i64 a2, .int .i64 0, .int .i64 a4, .int .i64 a5, .int .i64 a6, .int .i64 a7, .int .i64 a8]] w (Fits false w) := by
  have kz : (a4 == 0) = false := by simpa using hz
  clear hz
  go_enter Try.func85, Try.ntmps85
  go_wp2_with (go_at_call 79; refine (in6_calls _ _ _ _ (by assumption) _).mono ?_; rintro e w' ⟨rfl, ⟨n0, rfl⟩⟩)
  go_ret
  exact ⟨rfl, by repeat (with_reducible first | exact Below.refl _ _ | apply pw_below_drewN | apply below_drew1 | apply below_alloc | refine below_set ?_ (by simp))⟩
set_option maxHeartbeats 2000000 in
set_option maxRecDepth 100000 in
theorem fit_4n3 (a2 a5 a6 a7 a8 : Int) (w : World) (hz : ¬ a5 = 0) : Calls Try.prog 85 #[.agg #[.int .i64 4, .int .i64 0, .int .i64 a2, .int .i64 0, .int .i64 0, .int .i64 a5, .int .i64 a6, .int .i64 a7, .int .i64 a8]] w (Fits false w) := by
  have kz : (a5 == 0) = false := by simpa using hz
  clear hz
  go_enter Try.func85, Try.ntmps85
  go_wp2_with (go_at_call 79; refine (in6_calls _ _ _ _ (by assumption) _).mono ?_; rintro e w' ⟨rfl, ⟨n0, rfl⟩⟩)
  go_ret
  exact ⟨rfl, by repeat (with_reducible first | exact Below.refl _ _ | apply pw_below_drewN | apply below_drew1 | apply below_alloc | refine below_set ?_ (by simp))⟩
set_option maxHeartbeats 2000000 in
set_option maxRecDepth 100000 in
theorem fit_4n4 (a2 a6 a7 a8 : Int) (w : World) (hz : ¬ a6 = 0) : Calls Try.prog 85 #[.agg #[.int .i64 4, .int .i64 0, .int .i64 a2, .int .i64 0, .int .i64 0, .int .i64 0, .int .i64 a6, .int .i64 a7, .int .i64 a8]] w (Fits false w) := by
  have kz : (a6 == 0) = false := by simpa using hz
  clear hz
  go_enter Try.func85, Try.ntmps85
  go_wp2_with (go_at_call 79; refine (in6_calls _ _ _ _ (by assumption) _).mono ?_; rintro e w' ⟨rfl, ⟨n0, rfl⟩⟩)
  go_ret
  exact ⟨rfl, by repeat (with_reducible first | exact Below.refl _ _ | apply pw_below_drewN | apply below_drew1 | apply below_alloc | refine below_set ?_ (by simp))⟩
set_option maxHeartbeats 2000000 in
set_option maxRecDepth 100000 in
theorem fit_4n5 (a2 a7 a8 : Int) (w : World) (hz : ¬ a7 = 0) : Calls Try.prog 85 #[.agg #[.int .i64 4, .int .i64 0, .int .i64 a2, .int .i64 0, .int .i64 0, .int .i64 0, .int .i64 0, .int .i64 a7, .int .i64 a8]] w (Fits false w) := by
  have kz : (a7 == 0) = false := by simpa using hz
  clear hz
  go_enter Try.func85, Try.ntmps85
  go_wp2_with (go_at_call 79; refine (in6_calls _ _ _ _ (by assumption) _).mono ?_; rintro e w' ⟨rfl, ⟨n0, rfl⟩⟩)
  go_ret
  exact ⟨rfl, by repeat (with_reducible first | exact Below.refl _ _ | apply pw_below_drewN | apply below_drew1 | apply below_alloc | refine below_set ?_ (by simp))⟩
set_option maxHeartbeats 2000000 in
set_option maxRecDepth 100000 in
theorem fit_4n6 (a2 a8 : Int) (w : World) (hz : ¬ a8 = 0) : Calls Try.prog 85 #[.agg #[.int .i64 4, .int .i64 0, .int .i64 a2, .int .i64 0, .int .i64 0, .int .i64 0, .int .i64 0, .int .i64 0, .int .i64 a8]] w (Fits false w) := by
  have kz : (a8 == 0) = false := by simpa using hz
  clear hz
  go_enter Try.func85, Try.ntmps85
  go_wp2_with (go_at_call 79; refine (in6_calls _ _ _ _ (by assumption) _).mono ?_; rintro e w' ⟨rfl, ⟨n0, rfl⟩⟩)
  go_ret
  exact ⟨rfl, by repeat (with_reducible first | exact Below.refl _ _ | apply pw_below_drewN | apply below_drew1 | apply below_alloc | refine below_set ?_ (by simp))⟩
set_option maxHeartbeats 1000000 in
set_option maxRecDepth 100000 in
theorem fit_y (a0 : Int) (a1 a2 a3 a4 a5 a6 a7 a8 : Int) (w : World) (h4 : ¬ a0 = 4) (h : ¬ (1900 ≤ a6 ∧ a6 ≤ 2199 ∧ a6 ≤ a7 ∧ a7 ≤ 2199 ∧ 0 ≤ a8 ∧ a8 ≤ 2)) :
    Calls Try.prog 85 #[.agg #[.int .i64 a0, .int .i64 a1, .int .i64 a2, .int .i64 a3, .int .i64 a4, .int .i64 a5, .int .i64 a6, .int .i64 a7, .int .i64 a8]] w (Fits false w) := by
  have g4 : (a0 == 4) = false := by simpa using h4
  by_cases h6 : 1900 ≤ a6 ∧ a6 ≤ 2199
  · have g6 := decide_eq_true h6
    by_cases h7 : a6 ≤ a7 ∧ a7 ≤ 2199
    · have g7 := decide_eq_true h7
      have g8 : decide (0 ≤ a8 ∧ a8 ≤ 2) = false := decide_eq_false (by omega)
      clear h6 h7 h h4
      go_enter Try.func85, Try.ntmps85
      go_wp2_with (go_at_call 79; refine (in6_calls _ _ _ _ (by assumption) _).mono ?_; rintro e w' ⟨rfl, ⟨n0, rfl⟩⟩)
      go_ret
      exact ⟨rfl, by repeat (with_reducible first | exact Below.refl _ _ | apply pw_below_drewN | apply below_drew1 | apply below_alloc | refine below_set ?_ (by simp))⟩
    · have g7 := decide_eq_false h7
      clear h6 h7 h h4
      go_enter Try.func85, Try.ntmps85
      go_wp2_with (go_at_call 79; refine (in6_calls _ _ _ _ (by assumption) _).mono ?_; rintro e w' ⟨rfl, ⟨n0, rfl⟩⟩)
      go_ret
      exact ⟨rfl, by repeat (with_reducible first | exact Below.refl _ _ | apply pw_below_drewN | apply below_drew1 | apply below_alloc | refine below_set ?_ (by simp))⟩
  · have g6 := decide_eq_false h6
    clear h6 h h4
    go_enter Try.func85, Try.ntmps85
    go_wp2_with (go_at_call 79; refine (in6_calls _ _ _ _ (by assumption) _).mono ?_; rintro e w' ⟨rfl, ⟨n0, rfl⟩⟩)
    go_ret
    exact ⟨rfl, by repeat (with_reducible first | exact Below.refl _ _ | apply pw_below_drewN | apply below_drew1 | apply below_alloc | refine below_set ?_ (by simp))⟩
set_option maxHeartbeats 1000000 in
set_option maxRecDepth 100000 in
theorem fit_0 (a0 : Int) (a1 a2 a3 a4 a5 a6 a7 a8 : Int) (w : World) (g6 : decide (1900 ≤ a6 ∧ a6 ≤ 2199) = true) (g7 : decide (a6 ≤ a7 ∧ a7 ≤ 2199) = true) (g8 : decide (0 ≤ a8 ∧ a8 ≤ 2) = true) (h1 : ¬ a0 = 1) (h2 : ¬ a0 = 2) (h3 : ¬ a0 = 3) (h4 : ¬ a0 = 4) :
    Calls Try.prog 85 #[.agg #[.int .i64 a0, .int .i64 a1, .int .i64 a2, .int .i64 a3, .int .i64 a4, .int .i64 a5, .int .i64 a6, .int .i64 a7, .int .i64 a8]] w (Fits false w) := by
  have k1 : (a0 == 1) = false := by simpa using h1
  have k2 : (a0 == 2) = false := by simpa using h2
  have k3 : (a0 == 3) = false := by simpa using h3
  have k4 : (a0 == 4) = false := by simpa using h4
  clear h1 h2 h3 h4
  go_enter Try.func85, Try.ntmps85
  go_wp2_with (go_at_call 79; refine (in6_calls _ _ _ _ (by assumption) _).mono ?_; rintro e w' ⟨rfl, ⟨n0, rfl⟩⟩)
  go_ret
  exact ⟨rfl, by repeat (with_reducible first | exact Below.refl _ _ | apply pw_below_drewN | apply below_drew1 | apply below_alloc | refine below_set ?_ (by simp))⟩
set_option maxHeartbeats 2000000 in
set_option maxRecDepth 100000 in
theorem fit_2n0 (a1 a2 a3 a4 a5 a6 a7 a8 : Int) (w : World) (g6 : decide (1900 ≤ a6 ∧ a6 ≤ 2199) = true) (g7 : decide (a6 ≤ a7 ∧ a7 ≤ 2199) = true) (g8 : decide (0 ≤ a8 ∧ a8 ≤ 2) = true) (hz : ¬ a2 = 0) : Calls Try.prog 85 #[.agg #[.int .i64 2, .int .i64 a1, .int .i64 a2, .int .i64 a3, .int .i64 a4, .int .i64 a5, .int .i64 a6, .int .i64 a7, .int .i64 a8]] w (Fits false w) := by
  have kz : (a2 == 0) = false := by simpa using hz
  clear hz
  go_enter Try.func85, Try.ntmps85
  go_wp2_with (go_at_call 79; refine (in6_calls _ _ _ _ (by assumption) _).mono ?_; rintro e w' ⟨rfl, ⟨n0, rfl⟩⟩)
  go_ret
  exact ⟨rfl, by repeat (with_reducible first | exact Below.refl _ _ | apply pw_below_drewN | apply below_drew1 | apply below_alloc | refine below_set ?_ (by simp))⟩
set_option maxHeartbeats 2000000 in
set_option maxRecDepth 100000 in
theorem fit_2n1 (a1 a3 a4 a5 a6 a7 a8 : Int) (w : World) (g6 : decide (1900 ≤ a6 ∧ a6 ≤ 2199) = true) (g7 : decide (a6 ≤ a7 ∧ a7 ≤ 2199) = true) (g8 : decide (0 ≤ a8 ∧ a8 ≤ 2) = true) (hz : ¬ a5 = 0) : Calls Try.prog 85 #[.agg #[.int .i64 2, .int .i64 a1, .int .i64 0, .int .i64 a3, .int .i64 a4, .int .i64 a5, .int .i64 a6, .int .i64 a7, .int .i64 a8]] w (Fits false w) := by
  have kz : (a5 == 0) = false := by simpa using hz
  clear hz
  go_enter Try.func85, Try.ntmps85
  go_wp2_with (go_at_call 79; refine (in6_calls _ _ _ _ (by assumption) _).mono ?_; rintro e w' ⟨rfl, ⟨n0, rfl⟩⟩)
  go_ret
  exact ⟨rfl, by repeat (with_reducible first | exact Below.refl _ _ | apply pw_below_drewN | apply below_drew1 | apply below_alloc | refine below_set ?_ (by simp))⟩
set_option maxHeartbeats 2000000 in
set_option maxRecDepth 100000 in
theorem fit_2c0 (a1 a3 a4 a6 a7 a8 : Int) (w : World) (g6 : decide (1900 ≤ a6 ∧ a6 ≤ 2199) = true) (g7 : decide (a6 ≤ a7 ∧ a7 ≤ 2199) = true) (g8 : decide (0 ≤ a8 ∧ a8 ≤ 2) = true)  (c0 : decide (1 ≤ a1 ∧ a1 ≤ 12) = false) : Calls Try.prog 85 #[.agg #[.int .i64 2, .int .i64 a1, .int .i64 0, .int .i64 a3, .int .i64 a4, .int .i64 0, .int .i64 a6, .int .i64 a7, .int .i64 a8]] w (Fits false w) := by
  go_enter Try.func85, Try.ntmps85
  go_wp2_with (go_at_call 79; refine (in6_calls _ _ _ _ (by assumption) _).mono ?_; rintro e w' ⟨rfl, ⟨n0, rfl⟩⟩)
  go_ret
  exact ⟨rfl, by repeat (with_reducible first | exact Below.refl _ _ | apply pw_below_drewN | apply below_drew1 | apply below_alloc | refine below_set ?_ (by simp))⟩
set_option maxHeartbeats 2000000 in
set_option maxRecDepth 100000 in
theorem fit_2c1 (a1 a3 a4 a6 a7 a8 : Int) (w : World) (g6 : decide (1900 ≤ a6 ∧ a6 ≤ 2199) = true) (g7 : decide (a6 ≤ a7 ∧ a7 ≤ 2199) = true) (g8 : decide (0 ≤ a8 ∧ a8 ≤ 2) = true) (c0 : decide (1 ≤ a1 ∧ a1 ≤ 12) = true) (c1 : decide (0 ≤ a4 ∧ a4 ≤ 6) = false) : Calls Try.prog 85 #[.agg #[.int .i64 2, .int .i64 a1, .int .i64 0, .int .i64 a3, .int .i64 a4, .int .i64 0, .int .i64 a6, .int .i64 a7, .int .i64 a8]] w (Fits false w) := by
  go_enter Try.func85, Try.ntmps85
  go_wp2_with (go_at_call 79; refine (in6_calls _ _ _ _ (by assumption) _).mono ?_; rintro e w' ⟨rfl, ⟨n0, rfl⟩⟩)
  go_ret
  exact ⟨rfl, by repeat (with_reducible first | exact Below.refl _ _ | apply pw_below_drewN | apply below_drew1 | apply below_alloc | refine below_set ?_ (by simp))⟩
set_option maxHeartbeats 2000000 in
set_option maxRecDepth 100000 in
theorem fit_2c2 (a1 a3 a4 a6 a7 a8 : Int) (w : World) (g6 : decide (1900 ≤ a6 ∧ a6 ≤ 2199) = true) (g7 : decide (a6 ≤ a7 ∧ a7 ≤ 2199) = true) (g8 : decide (0 ≤ a8 ∧ a8 ≤ 2) = true) (c0 : decide (1 ≤ a1 ∧ a1 ≤ 12) = true) (c1 : decide (0 ≤ a4 ∧ a4 ≤ 6) = true) (c2 : decide (1 ≤ a3 ∧ a3 ≤ 5) = false) : Calls Try.prog 85 #[.agg #[.int .i64 2, .int .i64 a1, .int .i64 0, .int .i64 a3, .int .i64 a4, .int .i64 0, .int .i64 a6, .int .i64 a7, .int .i64 a8]] w (Fits false w) := by
  go_enter Try.func85, Try.ntmps85
  go_wp2_with (go_at_call 79; refine (in6_calls _ _ _ _ (by assumption) _).mono ?_; rintro e w' ⟨rfl, ⟨n0, rfl⟩⟩)
  go_ret
  exact ⟨rfl, by repeat (with_reducible first | exact Below.refl _ _ | apply pw_below_drewN | apply below_drew1 | apply below_alloc | refine below_set ?_ (by simp))⟩
set_option maxHeartbeats 2000000 in
set_option maxRecDepth 100000 in
theorem fit_2c3 (a1 a3 a4 a6 a7 a8 : Int) (w : World) (g6 : decide (1900 ≤ a6 ∧ a6 ≤ 2199) = true) (g7 : decide (a6 ≤ a7 ∧ a7 ≤ 2199) = true) (g8 : decide (0 ≤ a8 ∧ a8 ≤ 2) = true) (c0 : decide (1 ≤ a1 ∧ a1 ≤ 12) = true) (c1 : decide (0 ≤ a4 ∧ a4 ≤ 6) = true) (c2 : decide (1 ≤ a3 ∧ a3 ≤ 5) = true) : Calls Try.prog 85 #[.agg #[.int .i64 2, .int .i64 a1, .int .i64 0, .int .i64 a3, .int .i64 a4, .int .i64 0, .int .i64 a6, .int .i64 a7, .int .i64 a8]] w (Fits true w) := by
  go_enter Try.func85, Try.ntmps85
  go_wp2_with (go_at_call 79; refine (in6_calls _ _ _ _ (by assumption) _).mono ?_; rintro e w' ⟨rfl, ⟨n0, rfl⟩⟩)
  go_ret
  exact ⟨rfl, by repeat (with_reducible first | exact Below.refl _ _ | apply pw_below_drewN | apply below_drew1 | apply below_alloc | refine below_set ?_ (by simp))⟩
set_option maxHeartbeats 2000000 in
set_option maxRecDepth 100000 in
theorem fit_3n0 (a1 a2 a3 a4 a5 a6 a7 a8 : Int) (w : World) (g6 : decide (1900 ≤ a6 ∧ a6 ≤ 2199) = true) (g7 : decide (a6 ≤ a7 ∧ a7 ≤ 2199) = true) (g8 : decide (0 ≤ a8 ∧ a8 ≤ 2) = true) (hz : ¬ a1 = 0) : Calls Try.prog 85 #[.agg #[.int .i64 3, .int .i64 a1, .int .i64 a2, .int .i64 a3, .int .i64 a4, .int .i64 a5, .int .i64 a6, .int .i64 a7, .int .i64 a8]] w (Fits false w) := by
  have kz : (a1 == 0) = false := by simpa using hz
  clear hz
  go_enter Try.func85, Try.ntmps85
  go_wp2_with (go_at_call 79; refine (in6_calls _ _ _ _ (by assumption) _).mono ?_; rintro e w' ⟨rfl, ⟨n0, rfl⟩⟩)
  go_ret
  exact ⟨rfl, by repeat (with_reducible first | exact Below.refl _ _ | apply pw_below_drewN | apply below_drew1 | apply below_alloc | refine below_set ?_ (by simp))⟩
set_option maxHeartbeats 2000000 in
set_option maxRecDepth 100000 in
theorem fit_3n1 (a2 a3 a4 a5 a6 a7 a8 : Int) (w : World) (g6 : decide (1900 ≤ a6 ∧ a6 ≤ 2199) = true) (g7 : decide (a6 ≤ a7 ∧ a7 ≤ 2199) = true) (g8 : decide (0 ≤ a8 ∧ a8 ≤ 2) = true) (hz : ¬ a2 = 0) : Calls Try.prog 85 #[.agg #[.int .i64 3, .int .i64 0, .int .i64 a2, .int .i64 a3, .int .i64 a4, .int .i64 a5, .int .i64 a6, .int .i64 a7, .int .i64 a8]] w (Fits false w) := by
  have kz : (a2 == 0) = false := by simpa using hz
  clear hz
  go_enter Try.func85, Try.ntmps85
  go_wp2_with (go_at_call 79; refine (in6_calls _ _ _ _ (by assumption) _).mono ?_; rintro e w' ⟨rfl, ⟨n0, rfl⟩⟩)
  go_ret
  exact ⟨rfl, by repeat (with_reducible first | exact Below.refl _ _ | apply pw_below_drewN | apply below_drew1 | apply below_alloc | refine below_set ?_ (by simp))⟩
set_option maxHeartbeats 2000000 in
set_option maxRecDepth 100000 in
theorem fit_3n2 (a3 a4 a5 a6 a7 a8 : Int) (w : World) (g6 : decide (1900 ≤ a6 ∧ a6 ≤ 2199) = true) (g7 : decide (a6 ≤ a7 ∧ a7 ≤ 2199) = true) (g8 : decide (0 ≤ a8 ∧ a8 ≤ 2) = true) (hz : ¬ a3 = 0) : Calls Try.prog 85 #[.agg #[.int .i64 3, .int .i64 0, .int .i64 0, .int .i64 a3, .int .i64 a4, .int .i64 a5, .int .i64 a6, .int .i64 a7, .int .i64 a8]] w (Fits false w) := by
  have kz : (a3 == 0) = false := by simpa using hz
  clear hz
  go_enter Try.func85, Try.ntmps85
  go_wp2_with (go_at_call 79; refine (in6_calls _ _ _ _ (by assumption) _).mono ?_; rintro e w' ⟨rfl, ⟨n0, rfl⟩⟩)
  go_ret
  exact ⟨rfl, by repeat (with_reducible first | exact Below.refl _ _ | apply pw_below_drewN | apply below_drew1 | apply below_alloc | refine below_set ?_ (by simp))⟩
set_option maxHeartbeats 2000000 in
set_option maxRecDepth 100000 in
theorem fit_3n3 (a4 a5 a6 a7 a8 : Int) (w : World) (g6 : decide (1900 ≤ a6 ∧ a6 ≤ 2199) = true) (g7 : decide (a6 ≤ a7 ∧ a7 ≤ 2199) = true) (g8 : decide (0 ≤ a8 ∧ a8 ≤ 2) = true) (hz : ¬ a4 = 0) : Calls Try.prog 85 #[.agg #[.int .i64 3, .int .i64 0, .int .i64 0, .int .i64 0, .int .i64 a4, .int .i64 a5, .int .i64 a6, .int .i64 a7, .int .i64 a8]] w (Fits false w) := by
  have kz : (a4 == 0) = false := by simpa using hz
  clear hz
  go_enter Try.func85, Try.ntmps85
  go_wp2_with (go_at_call 79; refine (in6_calls _ _ _ _ (by assumption) _).mono ?_; rintro e w' ⟨rfl, ⟨n0, rfl⟩⟩)
  go_ret
  exact ⟨rfl, by repeat (with_reducible first | exact Below.refl _ _ | apply pw_below_drewN | apply below_drew1 | apply below_alloc | refine below_set ?_ (by simp))⟩
set_option maxHeartbeats 2000000 in
set_option maxRecDepth 100000 in
theorem fit_3c0 (a5 a6 a7 a8 : Int) (w : World) (g6 : decide (1900 ≤ a6 ∧ a6 ≤ 2199) = true) (g7 : decide (a6 ≤ a7 ∧ a7 ≤ 2199) = true) (g8 : decide (0 ≤ a8 ∧ a8 ≤ 2) = true)  (c0 : decide (-100 ≤ a5 ∧ a5 ≤ 100) = false) : Calls Try.prog 85 #[.agg #[.int .i64 3, .int .i64 0, .int .i64 0, .int .i64 0, .int .i64 0, .int .i64 a5, .int .i64 a6, .int .i64 a7, .int .i64 a8]] w (Fits false w) := by
  go_enter Try.func85, Try.ntmps85
  go_wp2_with (go_at_call 79; refine (in6_calls _ _ _ _ (by assumption) _).mono ?_; rintro e w' ⟨rfl, ⟨n0, rfl⟩⟩)
  go_ret
  exact ⟨rfl, by repeat (with_reducible first | exact Below.refl _ _ | apply pw_below_drewN | apply below_drew1 | apply below_alloc | refine below_set ?_ (by simp))⟩
set_option maxHeartbeats 2000000 in
set_option maxRecDepth 100000 in
theorem fit_3c1 (a5 a6 a7 a8 : Int) (w : World) (g6 : decide (1900 ≤ a6 ∧ a6 ≤ 2199) = true) (g7 : decide (a6 ≤ a7 ∧ a7 ≤ 2199) = true) (g8 : decide (0 ≤ a8 ∧ a8 ≤ 2) = true) (c0 : decide (-100 ≤ a5 ∧ a5 ≤ 100) = true) : Calls Try.prog 85 #[.agg #[.int .i64 3, .int .i64 0, .int .i64 0, .int .i64 0, .int .i64 0, .int .i64 a5, .int .i64 a6, .int .i64 a7, .int .i64 a8]] w (Fits true w) := by
  go_enter Try.func85, Try.ntmps85
  go_wp2_with (go_at_call 79; refine (in6_calls _ _ _ _ (by assumption) _).mono ?_; rintro e w' ⟨rfl, ⟨n0, rfl⟩⟩)
  go_ret
  exact ⟨rfl, by repeat (with_reducible first | exact Below.refl _ _ | apply pw_below_drewN | apply below_drew1 | apply below_alloc | refine below_set ?_ (by simp))⟩
set_option maxHeartbeats 2000000 in
set_option maxRecDepth 100000 in
theorem fit_1n0 (a1 a2 a3 a4 a5 a6 a7 a8 : Int) (w : World) (g6 : decide (1900 ≤ a6 ∧ a6 ≤ 2199) = true) (g7 : decide (a6 ≤ a7 ∧ a7 ≤ 2199) = true) (g8 : decide (0 ≤ a8 ∧ a8 ≤ 2) = true) (hz : ¬ a3 = 0) : Calls Try.prog 85 #[.agg #[.int .i64 1, .int .i64 a1, .int .i64 a2, .int .i64 a3, .int .i64 a4, .int .i64 a5, .int .i64 a6, .int .i64 a7, .int .i64 a8]] w (Fits false w) := by
  have kz : (a3 == 0) = false := by simpa using hz
  clear hz
  go_enter Try.func85, Try.ntmps85
  go_wp2_with (go_at_call 79; refine (in6_calls _ _ _ _ (by assumption) _).mono ?_; rintro e w' ⟨rfl, ⟨n0, rfl⟩⟩)
  go_quiet ((go_at_call 79; exact Calls.quiet_of ((in6_calls _ _ _ _ (by assumption) _).mono fun _ _ h => ⟨h.1, h.2.out⟩)))
  go_wp2_with fail
  go_ret
  exact ⟨rfl, by repeat (with_reducible first | exact Below.refl _ _ | apply pw_below_drewN | apply below_drew1 | apply below_alloc | refine below_set ?_ (by simp))⟩
set_option maxHeartbeats 2000000 in
set_option maxRecDepth 100000 in
theorem fit_1n1 (a1 a2 a4 a5 a6 a7 a8 : Int) (w : World) (g6 : decide (1900 ≤ a6 ∧ a6 ≤ 2199) = true) (g7 : decide (a6 ≤ a7 ∧ a7 ≤ 2199) = true) (g8 : decide (0 ≤ a8 ∧ a8 ≤ 2) = true) (hz : ¬ a4 = 0) : Calls Try.prog 85 #[.agg #[.int .i64 1, .int .i64 a1, .int .i64 a2, .int .i64 0, .int .i64 a4, .int .i64 a5, .int .i64 a6, .int .i64 a7, .int .i64 a8]] w (Fits false w) := by
  have kz : (a4 == 0) = false := by simpa using hz
  clear hz
  go_enter Try.func85, Try.ntmps85
  go_wp2_with (go_at_call 79; refine (in6_calls _ _ _ _ (by assumption) _).mono ?_; rintro e w' ⟨rfl, ⟨n0, rfl⟩⟩)
  go_quiet ((go_at_call 79; exact Calls.quiet_of ((in6_calls _ _ _ _ (by assumption) _).mono fun _ _ h => ⟨h.1, h.2.out⟩)))
  go_wp2_with fail
  go_ret
  exact ⟨rfl, by repeat (with_reducible first | exact Below.refl _ _ | apply pw_below_drewN | apply below_drew1 | apply below_alloc | refine below_set ?_ (by simp))⟩
set_option maxHeartbeats 2000000 in
set_option maxRecDepth 100000 in
theorem fit_1n2 (a1 a2 a5 a6 a7 a8 : Int) (w : World) (g6 : decide (1900 ≤ a6 ∧ a6 ≤ 2199) = true) (g7 : decide (a6 ≤ a7 ∧ a7 ≤ 2199) = true) (g8 : decide (0 ≤ a8 ∧ a8 ≤ 2) = true) (hz : ¬ a5 = 0) : Calls Try.prog 85 #[.agg #[.int .i64 1, .int .i64 a1, .int .i64 a2, .int .i64 0, .int .i64 0, .int .i64 a5, .int .i64 a6, .int .i64 a7, .int .i64 a8]] w (Fits false w) := by
  have kz : (a5 == 0) = false := by simpa using hz
  clear hz
  go_enter Try.func85, Try.ntmps85
  go_wp2_with (go_at_call 79; refine (in6_calls _ _ _ _ (by assumption) _).mono ?_; rintro e w' ⟨rfl, ⟨n0, rfl⟩⟩)
  go_quiet ((go_at_call 79; exact Calls.quiet_of ((in6_calls _ _ _ _ (by assumption) _).mono fun _ _ h => ⟨h.1, h.2.out⟩)))
  go_wp2_with fail
  go_ret
  exact ⟨rfl, by repeat (with_reducible first | exact Below.refl _ _ | apply pw_below_drewN | apply below_drew1 | apply below_alloc | refine below_set ?_ (by simp))⟩
set_option maxHeartbeats 2000000 in
set_option maxRecDepth 100000 in
theorem fit_1c0 (a1 a2 a6 a7 a8 : Int) (w : World) (g6 : decide (1900 ≤ a6 ∧ a6 ≤ 2199) = true) (g7 : decide (a6 ≤ a7 ∧ a7 ≤ 2199) = true) (g8 : decide (0 ≤ a8 ∧ a8 ≤ 2) = true) (c0 : decide (1 ≤ a1 ∧ a1 ≤ 12) = false) : Calls Try.prog 85 #[.agg #[.int .i64 1, .int .i64 a1, .int .i64 a2, .int .i64 0, .int .i64 0, .int .i64 0, .int .i64 a6, .int .i64 a7, .int .i64 a8]] w (Fits false w) := by
  go_enter Try.func85, Try.ntmps85
  go_wp2_with (go_at_call 79; refine (in6_calls _ _ _ _ (by assumption) _).mono ?_; rintro e w' ⟨rfl, ⟨n0, rfl⟩⟩)
  go_quiet ((go_at_call 79; exact Calls.quiet_of ((in6_calls _ _ _ _ (by assumption) _).mono fun _ _ h => ⟨h.1, h.2.out⟩)))
  go_wp2_with fail
  go_ret
  exact ⟨rfl, by repeat (with_reducible first | exact Below.refl _ _ | apply pw_below_drewN | apply below_drew1 | apply below_alloc | refine below_set ?_ (by simp))⟩
set_option maxHeartbeats 2000000 in
set_option maxRecDepth 100000 in
theorem fit_1m1 (a2 a6 a7 a8 : Int) (w : World) (g6 : decide (1900 ≤ a6 ∧ a6 ≤ 2199) = true) (g7 : decide (a6 ≤ a7 ∧ a7 ≤ 2199) = true) (g8 : decide (0 ≤ a8 ∧ a8 ≤ 2) = true) (b : Bool) (c1 : decide (1 ≤ a2 ∧ a2 ≤ 31) = b) : Calls Try.prog 85 #[.agg #[.int .i64 1, .int .i64 1, .int .i64 a2, .int .i64 0, .int .i64 0, .int .i64 0, .int .i64 a6, .int .i64 a7, .int .i64 a8]] w (Fits b w) := by
  have c0 : decide ((1 : Int) ≤ 1 ∧ (1 : Int) ≤ 12) = true := by decide
  go_enter Try.func85, Try.ntmps85
  go_wp2_with (go_at_call 79; refine (in6_calls _ _ _ _ (by assumption) _).mono ?_; rintro e w' ⟨rfl, ⟨n0, rfl⟩⟩)
  go_quiet ((go_at_call 79; exact Calls.quiet_of ((in6_calls _ _ _ _ (by assumption) _).mono fun _ _ h => ⟨h.1, h.2.out⟩)))
  go_wp2_with fail
  go_ret
  exact ⟨rfl, by repeat (with_reducible first | exact Below.refl _ _ | apply pw_below_drewN | apply below_drew1 | apply below_alloc | refine below_set ?_ (by simp))⟩
set_option maxHeartbeats 2000000 in
set_option maxRecDepth 100000 in
theorem fit_1m2 (a2 a6 a7 a8 : Int) (w : World) (g6 : decide (1900 ≤ a6 ∧ a6 ≤ 2199) = true) (g7 : decide (a6 ≤ a7 ∧ a7 ≤ 2199) = true) (g8 : decide (0 ≤ a8 ∧ a8 ≤ 2) = true) (b : Bool) (c1 : decide (1 ≤ a2 ∧ a2 ≤ 29) = b) : Calls Try.prog 85 #[.agg #[.int .i64 1, .int .i64 2, .int .i64 a2, .int .i64 0, .int .i64 0, .int .i64 0, .int .i64 a6, .int .i64 a7, .int .i64 a8]] w (Fits b w) := by
  have c0 : decide ((1 : Int) ≤ 2 ∧ (2 : Int) ≤ 12) = true := by decide
  go_enter Try.func85, Try.ntmps85
  go_wp2_with (go_at_call 79; refine (in6_calls _ _ _ _ (by assumption) _).mono ?_; rintro e w' ⟨rfl, ⟨n0, rfl⟩⟩)
  go_quiet ((go_at_call 79; exact Calls.quiet_of ((in6_calls _ _ _ _ (by assumption) _).mono fun _ _ h => ⟨h.1, h.2.out⟩)))
  go_wp2_with fail
  go_ret
  exact ⟨rfl, by repeat (with_reducible first | exact Below.refl _ _ | apply pw_below_drewN | apply below_drew1 | apply below_alloc | refine below_set ?_ (by simp))⟩
set_option maxHeartbeats 2000000 in
set_option maxRecDepth 100000 in
theorem fit_1m3 (a2 a6 a7 a8 : Int) (w : World) (g6 : decide (1900 ≤ a6 ∧ a6 ≤ 2199) = true) (g7 : decide (a6 ≤ a7 ∧ a7 ≤ 2199) = true) (g8 : decide (0 ≤ a8 ∧ a8 ≤ 2) = true) (b : Bool) (c1 : decide (1 ≤ a2 ∧ a2 ≤ 31) = b) : Calls Try.prog 85 #[.agg #[.int .i64 1, .int .i64 3, .int .i64 a2, .int .i64 0, .int .i64 0, .int .i64 0, .int .i64 a6, .int .i64 a7, .int .i64 a8]] w (Fits b w) := by
  have c0 : decide ((1 : Int) ≤ 3 ∧ (3 : Int) ≤ 12) = true := by decide
  go_enter Try.func85, Try.ntmps85
  go_wp2_with (go_at_call 79; refine (in6_calls _ _ _ _ (by assumption) _).mono ?_; rintro e w' ⟨rfl, ⟨n0, rfl⟩⟩)
  go_quiet ((go_at_call 79; exact Calls.quiet_of ((in6_calls _ _ _ _ (by assumption) _).mono fun _ _ h => ⟨h.1, h.2.out⟩)))
  go_wp2_with fail
  go_ret
  exact ⟨rfl, by repeat (with_reducible first | exact Below.refl _ _ | apply pw_below_drewN | apply below_drew1 | apply below_alloc | refine below_set ?_ (by simp))⟩
set_option maxHeartbeats 2000000 in
set_option maxRecDepth 100000 in
theorem fit_1m4 (a2 a6 a7 a8 : Int) (w : World) (g6 : decide (1900 ≤ a6 ∧ a6 ≤ 2199) = true) (g7 : decide (a6 ≤ a7 ∧ a7 ≤ 2199) = true) (g8 : decide (0 ≤ a8 ∧ a8 ≤ 2) = true) (b : Bool) (c1 : decide (1 ≤ a2 ∧ a2 ≤ 30) = b) : Calls Try.prog 85 #[.agg #[.int .i64 1, .int .i64 4, .int .i64 a2, .int .i64 0, .int .i64 0, .int .i64 0, .int .i64 a6, .int .i64 a7, .int .i64 a8]] w (Fits b w) := by
  have c0 : decide ((1 : Int) ≤ 4 ∧ (4 : Int) ≤ 12) = true := by decide
  go_enter Try.func85, Try.ntmps85
  go_wp2_with (go_at_call 79; refine (in6_calls _ _ _ _ (by assumption) _).mono ?_; rintro e w' ⟨rfl, ⟨n0, rfl⟩⟩)
  go_quiet ((go_at_call 79; exact Calls.quiet_of ((in6_calls _ _ _ _ (by assumption) _).mono fun _ _ h => ⟨h.1, h.2.out⟩)))
  go_wp2_with fail
  go_ret
  exact ⟨rfl, by repeat (with_reducible first | exact Below.refl _ _ | apply pw_below_drewN | apply below_drew1 | apply below_alloc | refine below_set ?_ (by simp))⟩
set_option maxHeartbeats 2000000 in
set_option maxRecDepth 100000 in
theorem fit_1m5 (a2 a6 a7 a8 : Int) (w : World) (g6 : decide (1900 ≤ a6 ∧ a6 ≤ 2199) = true) (g7 : decide (a6 ≤ a7 ∧ a7 ≤ 2199) = true) (g8 : decide (0 ≤ a8 ∧ a8 ≤ 2) = true) (b : Bool) (c1 : decide (1 ≤ a2 ∧ a2 ≤ 31) = b) : Calls Try.prog 85 #[.agg #[.int .i64 1, .int .i64 5, .int .i64 a2, .int .i64 0, .int .i64 0, .int .i64 0, .int .i64 a6, .int .i64 a7, .int .i64 a8]] w (Fits b w) := by
  have c0 : decide ((1 : Int) ≤ 5 ∧ (5 : Int) ≤ 12) = true := by decide
  go_enter Try.func85, Try.ntmps85
  go_wp2_with (go_at_call 79; refine (in6_calls _ _ _ _ (by assumption) _).mono ?_; rintro e w' ⟨rfl, ⟨n0, rfl⟩⟩)
  go_quiet ((go_at_call 79; exact Calls.quiet_of ((in6_calls _ _ _ _ (by assumption) _).mono fun _ _ h => ⟨h.1, h.2.out⟩)))
  go_wp2_with fail
  go_ret
  exact ⟨rfl, by repeat (with_reducible first | exact Below.refl _ _ | apply pw_below_drewN | apply below_drew1 | apply below_alloc | refine below_set ?_ (by simp))⟩
set_option maxHeartbeats 2000000 in
set_option maxRecDepth 100000 in
theorem fit_1m6 (a2 a6 a7 a8 : Int) (w : World) (g6 : decide (1900 ≤ a6 ∧ a6 ≤ 2199) = true) (g7 : decide (a6 ≤ a7 ∧ a7 ≤ 2199) = true) (g8 : decide (0 ≤ a8 ∧ a8 ≤ 2) = true) (b : Bool) (c1 : decide (1 ≤ a2 ∧ a2 ≤ 30) = b) : Calls Try.prog 85 #[.agg #[.int .i64 1, .int .i64 6, .int .i64 a2, .int .i64 0, .int .i64 0, .int .i64 0, .int .i64 a6, .int .i64 a7, .int .i64 a8]] w (Fits b w) := by
  have c0 : decide ((1 : Int) ≤ 6 ∧ (6 : Int) ≤ 12) = true := by decide
  go_enter Try.func85, Try.ntmps85
  go_wp2_with (go_at_call 79; refine (in6_calls _ _ _ _ (by assumption) _).mono ?_; rintro e w' ⟨rfl, ⟨n0, rfl⟩⟩)
  go_quiet ((go_at_call 79; exact Calls.quiet_of ((in6_calls _ _ _ _ (by assumption) _).mono fun _ _ h => ⟨h.1, h.2.out⟩)))
  go_wp2_with fail
  go_ret
  exact ⟨rfl, by repeat (with_reducible first | exact Below.refl _ _ | apply pw_below_drewN | apply below_drew1 | apply below_alloc | refine below_set ?_ (by simp))⟩
set_option maxHeartbeats 2000000 in
set_option maxRecDepth 100000 in
theorem fit_1m7 (a2 a6 a7 a8 : Int) (w : World) (g6 : decide (1900 ≤ a6 ∧ a6 ≤ 2199) = true) (g7 : decide (a6 ≤ a7 ∧ a7 ≤ 2199) = true) (g8 : decide (0 ≤ a8 ∧ a8 ≤ 2) = true) (b : Bool) (c1 : decide (1 ≤ a2 ∧ a2 ≤ 31) = b) : Calls Try.prog 85 #[.agg #[.int .i64 1, .int .i64 7, .int .i64 a2, .int .i64 0, .int .i64 0, .int .i64 0, .int .i64 a6, .int .i64 a7, .int .i64 a8]] w (Fits b w) := by
  have c0 : decide ((1 : Int) ≤ 7 ∧ (7 : Int) ≤ 12) = true := by decide
  go_enter Try.func85, Try.ntmps85
  go_wp2_with (go_at_call 79; refine (in6_calls _ _ _ _ (by assumption) _).mono ?_; rintro e w' ⟨rfl, ⟨n0, rfl⟩⟩)
  go_quiet ((go_at_call 79; exact Calls.quiet_of ((in6_calls _ _ _ _ (by assumption) _).mono fun _ _ h => ⟨h.1, h.2.out⟩)))
  go_wp2_with fail
  go_ret
  exact ⟨rfl, by repeat (with_reducible first | exact Below.refl _ _ | apply pw_below_drewN | apply below_drew1 | apply below_alloc | refine below_set ?_ (by simp))⟩
set_option maxHeartbeats 2000000 in
set_option maxRecDepth 100000 in
theorem fit_1m8 (a2 a6 a7 a8 : Int) (w : World) (g6 : decide (1900 ≤ a6 ∧ a6 ≤ 2199) = true) (g7 : decide (a6 ≤ a7 ∧ a7 ≤ 2199) = true) (g8 : decide (0 ≤ a8 ∧ a8 ≤ 2) = true) (b : Bool) (c1 : decide (1 ≤ a2 ∧ a2 ≤ 31) = b) : Calls Try.prog 85 #[.agg #[.int .i64 1, .int .i64 8, .int .i64 a2, .int .i64 0, .int .i64 0, .int .i64 0, .int .i64 a6, .int .i64 a7, .int .i64 a8]] w (Fits b w) := by
  have c0 : decide ((1 : Int) ≤ 8 ∧ (8 : Int) ≤ 12) = true := by decide
  go_enter Try.func85, Try.ntmps85
  go_wp2_with (go_at_call 79; refine (in6_calls _ _ _ _ (by assumption) _).mono ?_; rintro e w' ⟨rfl, ⟨n0, rfl⟩⟩)
  go_quiet ((go_at_call 79; exact Calls.quiet_of ((in6_calls _ _ _ _ (by assumption) _).mono fun _ _ h => ⟨h.1, h.2.out⟩)))
  go_wp2_with fail
  go_ret
  exact ⟨rfl, by repeat (with_reducible first | exact Below.refl _ _ | apply pw_below_drewN | apply below_drew1 | apply below_alloc | refine below_set ?_ (by simp))⟩
set_option maxHeartbeats 2000000 in
set_option maxRecDepth 100000 in
theorem fit_1m9 (a2 a6 a7 a8 : Int) (w : World) (g6 : decide (1900 ≤ a6 ∧ a6 ≤ 2199) = true) (g7 : decide (a6 ≤ a7 ∧ a7 ≤ 2199) = true) (g8 : decide (0 ≤ a8 ∧ a8 ≤ 2) = true) (b : Bool) (c1 : decide (1 ≤ a2 ∧ a2 ≤ 30) = b) : Calls Try.prog 85 #[.agg #[.int .i64 1, .int .i64 9, .int .i64 a2, .int .i64 0, .int .i64 0, .int .i64 0, .int .i64 a6, .int .i64 a7, .int .i64 a8]] w (Fits b w) := by
  have c0 : decide ((1 : Int) ≤ 9 ∧ (9 : Int) ≤ 12) = true := by decide
  go_enter Try.func85, Try.ntmps85
  go_wp2_with (go_at_call 79; refine (in6_calls _ _ _ _ (by assumption) _).mono ?_; rintro e w' ⟨rfl, ⟨n0, rfl⟩⟩)
  go_quiet ((go_at_call 79; exact Calls.quiet_of ((in6_calls _ _ _ _ (by assumption) _).mono fun _ _ h => ⟨h.1, h.2.out⟩)))
  go_wp2_with fail
  go_ret
  exact ⟨rfl, by repeat (with_reducible first | exact Below.refl _ _ | apply pw_below_drewN | apply below_drew1 | apply below_alloc | refine below_set ?_ (by simp))⟩
set_option maxHeartbeats 2000000 in
set_option maxRecDepth 100000 in
theorem fit_1m10 (a2 a6 a7 a8 : Int) (w : World) (g6 : decide (1900 ≤ a6 ∧ a6 ≤ 2199) = true) (g7 : decide (a6 ≤ a7 ∧ a7 ≤ 2199) = true) (g8 : decide (0 ≤ a8 ∧ a8 ≤ 2) = true) (b : Bool) (c1 : decide (1 ≤ a2 ∧ a2 ≤ 31) = b) : Calls Try.prog 85 #[.agg #[.int .i64 1, .int .i64 10, .int .i64 a2, .int .i64 0, .int .i64 0, .int .i64 0, .int .i64 a6, .int .i64 a7, .int .i64 a8]] w (Fits b w) := by
  have c0 : decide ((1 : Int) ≤ 10 ∧ (10 : Int) ≤ 12) = true := by decide
  go_enter Try.func85, Try.ntmps85
  go_wp2_with (go_at_call 79; refine (in6_calls _ _ _ _ (by assumption) _).mono ?_; rintro e w' ⟨rfl, ⟨n0, rfl⟩⟩)
  go_quiet ((go_at_call 79; exact Calls.quiet_of ((in6_calls _ _ _ _ (by assumption) _).mono fun _ _ h => ⟨h.1, h.2.out⟩)))
  go_wp2_with fail
  go_ret
  exact ⟨rfl, by repeat (with_reducible first | exact Below.refl _ _ | apply pw_below_drewN | apply below_drew1 | apply below_alloc | refine below_set ?_ (by simp))⟩
set_option maxHeartbeats 2000000 in
set_option maxRecDepth 100000 in
theorem fit_1m11 (a2 a6 a7 a8 : Int) (w : World) (g6 : decide (1900 ≤ a6 ∧ a6 ≤ 2199) = true) (g7 : decide (a6 ≤ a7 ∧ a7 ≤ 2199) = true) (g8 : decide (0 ≤ a8 ∧ a8 ≤ 2) = true) (b : Bool) (c1 : decide (1 ≤ a2 ∧ a2 ≤ 30) = b) : Calls Try.prog 85 #[.agg #[.int .i64 1, .int .i64 11, .int .i64 a2, .int .i64 0, .int .i64 0, .int .i64 0, .int .i64 a6, .int .i64 a7, .int .i64 a8]] w (Fits b w) := by
  have c0 : decide ((1 : Int) ≤ 11 ∧ (11 : Int) ≤ 12) = true := by decide
  go_enter Try.func85, Try.ntmps85
  go_wp2_with (go_at_call 79; refine (in6_calls _ _ _ _ (by assumption) _).mono ?_; rintro e w' ⟨rfl, ⟨n0, rfl⟩⟩)
  go_quiet ((go_at_call 79; exact Calls.quiet_of ((in6_calls _ _ _ _ (by assumption) _).mono fun _ _ h => ⟨h.1, h.2.out⟩)))
  go_wp2_with fail
  go_ret
  exact ⟨rfl, by repeat (with_reducible first | exact Below.refl _ _ | apply pw_below_drewN | apply below_drew1 | apply below_alloc | refine below_set ?_ (by simp))⟩
set_option maxHeartbeats 2000000 in
set_option maxRecDepth 100000 in
theorem fit_1m12 (a2 a6 a7 a8 : Int) (w : World) (g6 : decide (1900 ≤ a6 ∧ a6 ≤ 2199) = true) (g7 : decide (a6 ≤ a7 ∧ a7 ≤ 2199) = true) (g8 : decide (0 ≤ a8 ∧ a8 ≤ 2) = true) (b : Bool) (c1 : decide (1 ≤ a2 ∧ a2 ≤ 31) = b) : Calls Try.prog 85 #[.agg #[.int .i64 1, .int .i64 12, .int .i64 a2, .int .i64 0, .int .i64 0, .int .i64 0, .int .i64 a6, .int .i64 a7, .int .i64 a8]] w (Fits b w) := by
  have c0 : decide ((1 : Int) ≤ 12 ∧ (12 : Int) ≤ 12) = true := by decide
  go_enter Try.func85, Try.ntmps85
  go_wp2_with (go_at_call 79; refine (in6_calls _ _ _ _ (by assumption) _).mono ?_; rintro e w' ⟨rfl, ⟨n0, rfl⟩⟩)
  go_quiet ((go_at_call 79; exact Calls.quiet_of ((in6_calls _ _ _ _ (by assumption) _).mono fun _ _ h => ⟨h.1, h.2.out⟩)))
  go_wp2_with fail
  go_ret
  exact ⟨rfl, by repeat (with_reducible first | exact Below.refl _ _ | apply pw_below_drewN | apply below_drew1 | apply below_alloc | refine below_set ?_ (by simp))⟩

theorem not_years {a0 a1 a2 a3 a4 a5 a6 a7 a8 : Int} (h4 : ¬ a0 = 4) (h : ¬ (1900 ≤ a6 ∧ a6 ≤ 2199 ∧ a6 ≤ a7 ∧ a7 ≤ 2199 ∧ 0 ≤ a8 ∧ a8 ≤ 2)) : M.may ⟨a0, a1, a2, a3, a4, a5, a6, a7, a8⟩ = false := by
  have hy : M.yearsOk ⟨a0, a1, a2, a3, a4, a5, a6, a7, a8⟩ = false := decide_eq_false h
  unfold M.may
  simp only [hy, Bool.and_false, h4, if_false]
  repeat' split
  all_goals rfl

/-- 'tenorref6.fit': may a rule be? -/
theorem fit_calls (a0 a1 a2 a3 a4 a5 a6 a7 a8 : Int) (w : World) :
    Calls Try.prog 85 #[.agg #[.int .i64 a0, .int .i64 a1, .int .i64 a2, .int .i64 a3, .int .i64 a4, .int .i64 a5, .int .i64 a6, .int .i64 a7, .int .i64 a8]] w (Fits (M.may ⟨a0, a1, a2, a3, a4, a5, a6, a7, a8⟩) w) := by
  by_cases k4 : a0 = 4
  · subst k4
    by_cases z1 : a1 = 0
    rotate_left
    · rw [show M.may ⟨4, a1, a2, a3, a4, a5, a6, a7, a8⟩ = false by simp [M.may, z1]]; exact fit_4n0 _ _ _ _ _ _ _ _ w z1
    subst z1
    by_cases z3 : a3 = 0
    rotate_left
    · rw [show M.may ⟨4, 0, a2, a3, a4, a5, a6, a7, a8⟩ = false by simp [M.may, z3]]; exact fit_4n1 _ _ _ _ _ _ _ w z3
    subst z3
    by_cases z4 : a4 = 0
    rotate_left
    · rw [show M.may ⟨4, 0, a2, 0, a4, a5, a6, a7, a8⟩ = false by simp [M.may, z4]]; exact fit_4n2 _ _ _ _ _ _ w z4
    subst z4
    by_cases z5 : a5 = 0
    rotate_left
    · rw [show M.may ⟨4, 0, a2, 0, 0, a5, a6, a7, a8⟩ = false by simp [M.may, z5]]; exact fit_4n3 _ _ _ _ _ w z5
    subst z5
    by_cases z6 : a6 = 0
    rotate_left
    · rw [show M.may ⟨4, 0, a2, 0, 0, 0, a6, a7, a8⟩ = false by simp [M.may, z6]]; exact fit_4n4 _ _ _ _ w z6
    subst z6
    by_cases z7 : a7 = 0
    rotate_left
    · rw [show M.may ⟨4, 0, a2, 0, 0, 0, 0, a7, a8⟩ = false by simp [M.may, z7]]; exact fit_4n5 _ _ _ w z7
    subst z7
    by_cases z8 : a8 = 0
    rotate_left
    · rw [show M.may ⟨4, 0, a2, 0, 0, 0, 0, 0, a8⟩ = false by simp [M.may, z8]]; exact fit_4n6 _ _ w z8
    subst z8
    exact fit_4 _ _ _ _ _ _ _ _ w _ (by simp [M.may]) ⟨rfl, rfl, rfl, rfl, rfl, rfl, rfl⟩
  by_cases hy : 1900 ≤ a6 ∧ a6 ≤ 2199 ∧ a6 ≤ a7 ∧ a7 ≤ 2199 ∧ 0 ≤ a8 ∧ a8 ≤ 2
  rotate_left
  · rw [not_years k4 hy]; exact fit_y _ _ _ _ _ _ _ _ _ w k4 hy
  have hyo : decide (1900 ≤ a6 ∧ a6 ≤ 2199 ∧ a6 ≤ a7 ∧ a7 ≤ 2199 ∧ 0 ≤ a8 ∧ a8 ≤ 2) = true := decide_eq_true hy
  have g6 := decide_eq_true (show 1900 ≤ a6 ∧ a6 ≤ 2199 from ⟨hy.1, hy.2.1⟩)
  have g7 := decide_eq_true (show a6 ≤ a7 ∧ a7 ≤ 2199 from ⟨hy.2.2.1, hy.2.2.2.1⟩)
  have g8 := decide_eq_true (show 0 ≤ a8 ∧ a8 ≤ 2 from hy.2.2.2.2)
  by_cases k1 : a0 = 1
  · subst k1
    by_cases z3 : a3 = 0
    rotate_left
    · rw [show M.may ⟨1, a1, a2, a3, a4, a5, a6, a7, a8⟩ = false by simp [M.may, z3]]; exact fit_1n0 _ _ _ _ _ _ _ _ w g6 g7 g8 z3
    subst z3
    by_cases z4 : a4 = 0
    rotate_left
    · rw [show M.may ⟨1, a1, a2, 0, a4, a5, a6, a7, a8⟩ = false by simp [M.may, z4]]; exact fit_1n1 _ _ _ _ _ _ _ w g6 g7 g8 z4
    subst z4
    by_cases z5 : a5 = 0
    rotate_left
    · rw [show M.may ⟨1, a1, a2, 0, 0, a5, a6, a7, a8⟩ = false by simp [M.may, z5]]; exact fit_1n2 _ _ _ _ _ _ w g6 g7 g8 z5
    subst z5
    by_cases hm : 1 ≤ a1 ∧ a1 ≤ 12
    rotate_left
    · rw [show M.may ⟨1, a1, a2, 0, 0, 0, a6, a7, a8⟩ = false by unfold M.may; rw [if_pos rfl]; rw [Bool.and_eq_false_iff]; left; rw [decide_eq_false_iff_not]; simp only; omega]
      exact fit_1c0 _ _ _ _ _ w g6 g7 g8 (decide_eq_false hm)
    have hv : ∀ {p : Prop} [Decidable p], p → M.may ⟨1, a1, a2, 0, 0, 0, a6, a7, a8⟩ = decide (1 ≤ a2 ∧ a2 ≤ M.mlen 2000 a1) := by
      intro p _ _
      show (decide (1 ≤ a1 ∧ a1 ≤ 12 ∧ (0 : Int) = 0 ∧ (0 : Int) = 0 ∧ (0 : Int) = 0 ∧ 1 ≤ a2 ∧ a2 ≤ M.mlen 2000 a1) && decide (1900 ≤ a6 ∧ a6 ≤ 2199 ∧ a6 ≤ a7 ∧ a7 ≤ 2199 ∧ 0 ≤ a8 ∧ a8 ≤ 2)) = _
      rw [hyo, Bool.and_true, decide_eq_decide]
      exact ⟨fun h => ⟨h.2.2.2.2.2.1, h.2.2.2.2.2.2⟩, fun h => ⟨hm.1, hm.2, rfl, rfl, rfl, h.1, h.2⟩⟩
    rw [hv trivial]
    have h12 : a1 = 1 ∨ a1 = 2 ∨ a1 = 3 ∨ a1 = 4 ∨ a1 = 5 ∨ a1 = 6 ∨ a1 = 7 ∨ a1 = 8 ∨ a1 = 9 ∨ a1 = 10 ∨ a1 = 11 ∨ a1 = 12 := by omega
    rcases h12 with rfl | rfl | rfl | rfl | rfl | rfl | rfl | rfl | rfl | rfl | rfl | rfl
    · exact fit_1m1 _ _ _ _ w g6 g7 g8 _ rfl
    · exact fit_1m2 _ _ _ _ w g6 g7 g8 _ rfl
    · exact fit_1m3 _ _ _ _ w g6 g7 g8 _ rfl
    · exact fit_1m4 _ _ _ _ w g6 g7 g8 _ rfl
    · exact fit_1m5 _ _ _ _ w g6 g7 g8 _ rfl
    · exact fit_1m6 _ _ _ _ w g6 g7 g8 _ rfl
    · exact fit_1m7 _ _ _ _ w g6 g7 g8 _ rfl
    · exact fit_1m8 _ _ _ _ w g6 g7 g8 _ rfl
    · exact fit_1m9 _ _ _ _ w g6 g7 g8 _ rfl
    · exact fit_1m10 _ _ _ _ w g6 g7 g8 _ rfl
    · exact fit_1m11 _ _ _ _ w g6 g7 g8 _ rfl
    · exact fit_1m12 _ _ _ _ w g6 g7 g8 _ rfl
  by_cases k2 : a0 = 2
  · subst k2
    have no : ∀ {q : Prop} [Decidable q], ¬ q → (decide q && M.yearsOk ⟨2, a1, a2, a3, a4, a5, a6, a7, a8⟩) = false := by intro q _ h; simp [h]
    have hv : M.may ⟨2, a1, a2, a3, a4, a5, a6, a7, a8⟩ = (decide (a2 = 0 ∧ a5 = 0 ∧ 1 ≤ a1 ∧ a1 ≤ 12 ∧ 0 ≤ a4 ∧ a4 ≤ 6 ∧ 1 ≤ a3 ∧ a3 ≤ 5) && M.yearsOk ⟨2, a1, a2, a3, a4, a5, a6, a7, a8⟩) := rfl
    rw [hv]
    by_cases z2 : a2 = 0
    rotate_left
    · rw [no (by omega)]; exact fit_2n0 _ _ _ _ _ _ _ _ w g6 g7 g8 z2
    subst z2
    by_cases z5 : a5 = 0
    rotate_left
    · rw [no (by omega)]; exact fit_2n1 _ _ _ _ _ _ _ w g6 g7 g8 z5
    subst z5
    by_cases c1 : 1 ≤ a1 ∧ a1 ≤ 12
    rotate_left
    · rw [no (by omega)]; exact fit_2c0 _ _ _ _ _ _ w g6 g7 g8 (decide_eq_false c1)
    by_cases c4 : 0 ≤ a4 ∧ a4 ≤ 6
    rotate_left
    · rw [no (by omega)]; exact fit_2c1 _ _ _ _ _ _ w g6 g7 g8 (decide_eq_true c1) (decide_eq_false c4)
    by_cases c3 : 1 ≤ a3 ∧ a3 ≤ 5
    rotate_left
    · rw [no (by omega)]; exact fit_2c2 _ _ _ _ _ _ w g6 g7 g8 (decide_eq_true c1) (decide_eq_true c4) (decide_eq_false c3)
    rw [show (decide ((0 : Int) = 0 ∧ (0 : Int) = 0 ∧ 1 ≤ a1 ∧ a1 ≤ 12 ∧ 0 ≤ a4 ∧ a4 ≤ 6 ∧ 1 ≤ a3 ∧ a3 ≤ 5) && M.yearsOk ⟨2, a1, 0, a3, a4, 0, a6, a7, a8⟩) = true by rw [Bool.and_eq_true]; exact ⟨decide_eq_true (by omega), hyo⟩]
    exact fit_2c3 _ _ _ _ _ _ w g6 g7 g8 (decide_eq_true c1) (decide_eq_true c4) (decide_eq_true c3)
  by_cases k3 : a0 = 3
  · subst k3
    have no : ∀ {q : Prop} [Decidable q], ¬ q → (decide q && M.yearsOk ⟨3, a1, a2, a3, a4, a5, a6, a7, a8⟩) = false := by intro q _ h; simp [h]
    have hv : M.may ⟨3, a1, a2, a3, a4, a5, a6, a7, a8⟩ = (decide (a1 = 0 ∧ a2 = 0 ∧ a3 = 0 ∧ a4 = 0 ∧ -100 ≤ a5 ∧ a5 ≤ 100) && M.yearsOk ⟨3, a1, a2, a3, a4, a5, a6, a7, a8⟩) := rfl
    rw [hv]
    by_cases z1 : a1 = 0
    rotate_left
    · rw [no (by omega)]; exact fit_3n0 _ _ _ _ _ _ _ _ w g6 g7 g8 z1
    subst z1
    by_cases z2 : a2 = 0
    rotate_left
    · rw [no (by omega)]; exact fit_3n1 _ _ _ _ _ _ _ w g6 g7 g8 z2
    subst z2
    by_cases z3 : a3 = 0
    rotate_left
    · rw [no (by omega)]; exact fit_3n2 _ _ _ _ _ _ w g6 g7 g8 z3
    subst z3
    by_cases z4 : a4 = 0
    rotate_left
    · rw [no (by omega)]; exact fit_3n3 _ _ _ _ _ w g6 g7 g8 z4
    subst z4
    by_cases c5 : -100 ≤ a5 ∧ a5 ≤ 100
    rotate_left
    · rw [no (by omega)]; exact fit_3c0 _ _ _ _ w g6 g7 g8 (decide_eq_false c5)
    rw [show (decide ((0 : Int) = 0 ∧ (0 : Int) = 0 ∧ (0 : Int) = 0 ∧ (0 : Int) = 0 ∧ -100 ≤ a5 ∧ a5 ≤ 100) && M.yearsOk ⟨3, 0, 0, 0, 0, a5, a6, a7, a8⟩) = true by rw [Bool.and_eq_true]; exact ⟨decide_eq_true (by omega), hyo⟩]
    exact fit_3c1 _ _ _ _ w g6 g7 g8 (decide_eq_true c5)
  rw [show M.may ⟨a0, a1, a2, a3, a4, a5, a6, a7, a8⟩ = false by unfold M.may; simp only; rw [if_neg k1, if_neg k2, if_neg k3, if_neg k4]]
  exact fit_0 _ _ _ _ _ _ _ _ _ w g6 g7 g8 k1 k2 k3 k4

end Go.Proofs.Ytoncignjcgjhhaa.H

namespace Go.Proofs.Ytoncignjcgjhhaa.Q
open Go.RowKit Go.Proofs.YtoncignjcgjhhaaW.PrintWords Go.Proofs.YtoncignjcgjhhaaW.PrintLast Go.Proofs.YtoncignjcgjhhaaW.PrintMore
attribute [local go_sem] max2_int min2_int max_two min_two max_three min_three max_four min_four   -- for this text's walks alone
set_option linter.unusedVariables false
set_option linter.unusedSimpArgs false

def tenorref6_fit.f (a0_0 : Int) (a0_1 : Int) (a0_2 : Int) (a0_3 : Int) (a0_4 : Int) (a0_5 : Int) (a0_6 : Int) (a0_7 : Int) (a0_8 : Int) : Option (Bool) := some (Go.Proofs.Ytoncignjcgjhhaa.M.may ⟨a0_0, a0_1, a0_2, a0_3, a0_4, a0_5, a0_6, a0_7, a0_8⟩)
theorem tenorref6_fit.calls (a0_0 : Int) (a0_1 : Int) (a0_2 : Int) (a0_3 : Int) (a0_4 : Int) (a0_5 : Int) (a0_6 : Int) (a0_7 : Int) (a0_8 : Int) (r : Bool) (w : World) (h : tenorref6_fit.f a0_0 a0_1 a0_2 a0_3 a0_4 a0_5 a0_6 a0_7 a0_8 = some r) :
    Calls Try.prog 85 #[.agg #[.int .i64 a0_0, .int .i64 a0_1, .int .i64 a0_2, .int .i64 a0_3, .int .i64 a0_4, .int .i64 a0_5, .int .i64 a0_6, .int .i64 a0_7, .int .i64 a0_8]] w fun e w' => e = .returned (.bool r) ∧ Below w.heap.size w w' := by
  have e := Option.some.inj h
  have c := Go.Proofs.Ytoncignjcgjhhaa.H.fit_calls a0_0 a0_1 a0_2 a0_3 a0_4 a0_5 a0_6 a0_7 a0_8 w
  rw [e] at c
  exact c

end Go.Proofs.Ytoncignjcgjhhaa.Q
