/- Contracts and facts of functions of the program (calendar, dates and their documents), joined in one text by a program of this session. No condition but what each theorem states. -/
import Derived.Test.YtoncignjcgjhhaaEGG
import Derived.Test.YtoncignjcgjhhaaEGA
import Derived.Test.YtoncignjcgjhhaaEGC
set_option linter.unusedVariables false
set_option linter.unusedSimpArgs false
namespace Go.Proofs.Ytoncignjcgjhhaa.H
open Go.RowKit Go.Maps Go.Proofs.YtoncignjcgjhhaaW.PrintWords Go.Proofs.YtoncignjcgjhhaaW.PrintLast Go.Proofs.YtoncignjcgjhhaaW.PrintMore
open Go.Proofs.Ytoncignjcgjhhaa.Q (S63 k63 z63)
theorem fin {w w' : World} {o : Obj} {bb : Nat} {we : Int} {A : Option Addr} {c : Nat} {l : List S63} {n : Nat} (h : Book (w.alloc o) w' bb we A c l n) : Below w.heap.size w w' := below_step (below_alloc (Below.refl _ _) o) h.bel
theorem ret_bp {k : IntKind} {a : Bool} {b : Int} {q : Bool × Int} (h : (a, b) = q) : Ending.returned (.tuple #[.bool a, .int k b]) = .returned (.tuple #[.bool q.1, .int k q.2]) := by rw [← h]
set_option maxHeartbeats 2000000 in
set_option maxRecDepth 100000 in
theorem Holiday_calls (we : Int) (A : Option Addr) (c : Nat) (l : List S63) (n : Int) (w : World) (hr : Kd.C k63 w A l.length l) (hw : ∀ x ∈ l, wfS x) :
  Calls Try.prog 35 #[.agg #[.int .i64 we, .slice A l.length c], .int .i64 n] w fun e w' => e = .returned (.tuple #[.bool (M.Holiday we (l.map ru) n).1, .int .i64 (M.Holiday we (l.map ru) n).2]) ∧ Below w.heap.size w w' := by
 have HR := Aside0.mk hr;have HW := Aside0.mk hw;clear hr hw
 by_cases hne : (M.chk we (l.map ru)).1 = 0
 rotate_left
 ·
  have HT := Aside0.mk (show (false, (M.chk we (l.map ru)).1) = M.Holiday we (l.map ru) n by unfold M.Holiday; rw [if_neg hne])
  have hb : ((M.chk we (l.map ru)).1 != 0) = true := by simpa using hne
  have HN := Aside0.mk hne; clear hne
  go_enter Try.func35, Try.ntmps35
  go_wp2_with fail
  refine (begin_err we A c l _ (Kd.C_below HR.out (below_alloc (Below.refl _ _) _)) HW.out HN.out).mono ?_; rintro e w2 ⟨rfl, hb2⟩
  have HB2 := Aside0.mk (below_step (below_alloc (Below.refl _ _) _) hb2); clear hb2
  go_wp2_with fail
  go_ret2
  exact ⟨ret_bp HT.out, HB2.out⟩
 have HN := Aside0.mk hne
 have HU := Aside0.mk (show M.Holiday we (l.map ru) n = _ by unfold M.Holiday; rw [if_pos hne])
 clear hne
 by_cases hx : M.isDay n
 ·
  have HT := Aside0.mk (show (M.hol we (l.map ru) n, 0) = M.Holiday we (l.map ru) n by rw [HU.out, if_pos hx])
  have HX := Aside0.mk hx
  have HDB := Aside0.mk (decide_eq_true (show 0 ≤ n ∧ n ≤ 109572 from hx)); clear hx
  go_enter Try.func35, Try.ntmps35
  go_wp2_with fail
  refine (begin_ok we A c l _ (Kd.C_below HR.out (below_alloc (Below.refl _ _) _)) HW.out HN.out).mono ?_; rintro e w2 ⟨bb, rfl, hb2⟩
  have HO := Aside0.mk (ok_of we A l _ (Kd.C_below HR.out (below_alloc (Below.refl w.heap.size w) (.cells #[.int .i64 we, .slice A l.length c] 24))) HW.out HN.out)
  have HB := Aside0.mk hb2; clear hb2
  go_wp2_with fail
  refine (is_calls _ _ HDB.out _).mono ?_; rintro e w3 ⟨rfl, ⟨q3, rfl⟩⟩
  go_wp2_with fail
  refine (holiday_calls _ _ bb we A c l 0 _ (by repeat (with_reducible first | exact HB.out | refine Book.drewN ?_ _ | refine Book.drew ?_)) HO.out HX.out (by unfold maxLen; omega)).mono ?_; rintro e w4 ⟨rfl, hb4⟩
  have HB4 := Aside0.mk hb4; clear hb4
  go_wp2_with fail
  go_ret2
  exact ⟨ret_bp HT.out, fin HB4.out⟩
 ·
  have HT := Aside0.mk (show (false, 51) = M.Holiday we (l.map ru) n by rw [HU.out, if_neg hx])
  have HDB := Aside0.mk (decide_eq_false (show ¬ (0 ≤ n ∧ n ≤ 109572) from hx)); clear hx
  go_enter Try.func35, Try.ntmps35
  go_wp2_with fail
  refine (begin_ok we A c l _ (Kd.C_below HR.out (below_alloc (Below.refl _ _) _)) HW.out HN.out).mono ?_; rintro e w2 ⟨bb, rfl, hb2⟩
  have HO := Aside0.mk (ok_of we A l _ (Kd.C_below HR.out (below_alloc (Below.refl w.heap.size w) (.cells #[.int .i64 we, .slice A l.length c] 24))) HW.out HN.out)
  have HB := Aside0.mk hb2; clear hb2
  go_wp2_with fail
  refine (is_calls _ _ HDB.out _).mono ?_; rintro e w3 ⟨rfl, ⟨q3, rfl⟩⟩
  go_wp2_with fail
  go_ret2
  exact ⟨ret_bp HT.out, fin (HB.out.drewN _)⟩
set_option maxHeartbeats 2000000 in
set_option maxRecDepth 100000 in
theorem Open_calls (we : Int) (A : Option Addr) (c : Nat) (l : List S63) (n : Int) (w : World) (hr : Kd.C k63 w A l.length l) (hw : ∀ x ∈ l, wfS x) :
  Calls Try.prog 33 #[.agg #[.int .i64 we, .slice A l.length c], .int .i64 n] w fun e w' => e = .returned (.tuple #[.bool (M.Open we (l.map ru) n).1, .int .i64 (M.Open we (l.map ru) n).2]) ∧ Below w.heap.size w w' := by
 have HR := Aside0.mk hr;have HW := Aside0.mk hw;clear hr hw
 by_cases hne : (M.chk we (l.map ru)).1 = 0
 rotate_left
 ·
  have HT := Aside0.mk (show (false, (M.chk we (l.map ru)).1) = M.Open we (l.map ru) n by unfold M.Open; rw [if_neg hne])
  have hb : ((M.chk we (l.map ru)).1 != 0) = true := by simpa using hne
  have HN := Aside0.mk hne; clear hne
  go_enter Try.func33, Try.ntmps33
  go_wp2_with fail
  refine (begin_err we A c l _ (Kd.C_below HR.out (below_alloc (Below.refl _ _) _)) HW.out HN.out).mono ?_; rintro e w2 ⟨rfl, hb2⟩
  have HB2 := Aside0.mk (below_step (below_alloc (Below.refl _ _) _) hb2); clear hb2
  go_wp2_with fail
  go_ret2
  exact ⟨ret_bp HT.out, HB2.out⟩
 have HN := Aside0.mk hne
 have HU := Aside0.mk (show M.Open we (l.map ru) n = _ by unfold M.Open; rw [if_pos hne])
 clear hne
 by_cases hx : M.isDay n
 ·
  have HT := Aside0.mk (show (M.isOpen we (l.map ru) n, 0) = M.Open we (l.map ru) n by rw [HU.out, if_pos hx])
  have HX := Aside0.mk hx
  have HDB := Aside0.mk (decide_eq_true (show 0 ≤ n ∧ n ≤ 109572 from hx)); clear hx
  go_enter Try.func33, Try.ntmps33
  go_wp2_with fail
  refine (begin_ok we A c l _ (Kd.C_below HR.out (below_alloc (Below.refl _ _) _)) HW.out HN.out).mono ?_; rintro e w2 ⟨bb, rfl, hb2⟩
  have HO := Aside0.mk (ok_of we A l _ (Kd.C_below HR.out (below_alloc (Below.refl w.heap.size w) (.cells #[.int .i64 we, .slice A l.length c] 24))) HW.out HN.out)
  have HB := Aside0.mk hb2; clear hb2
  go_wp2_with fail
  refine (is_calls _ _ HDB.out _).mono ?_; rintro e w3 ⟨rfl, ⟨q3, rfl⟩⟩
  go_wp2_with fail
  refine (open_calls _ _ bb we A c l 0 _ _ rfl (by repeat (with_reducible first | exact HB.out | refine Book.drewN ?_ _ | refine Book.drew ?_)) HO.out HX.out (by unfold maxLen; omega)).mono ?_; rintro e w4 ⟨rfl, hb4⟩
  have HB4 := Aside0.mk hb4; clear hb4
  go_wp2_with fail
  go_ret2
  exact ⟨ret_bp HT.out, fin HB4.out⟩
 ·
  have HT := Aside0.mk (show (false, 51) = M.Open we (l.map ru) n by rw [HU.out, if_neg hx])
  have HDB := Aside0.mk (decide_eq_false (show ¬ (0 ≤ n ∧ n ≤ 109572) from hx)); clear hx
  go_enter Try.func33, Try.ntmps33
  go_wp2_with fail
  refine (begin_ok we A c l _ (Kd.C_below HR.out (below_alloc (Below.refl _ _) _)) HW.out HN.out).mono ?_; rintro e w2 ⟨bb, rfl, hb2⟩
  have HO := Aside0.mk (ok_of we A l _ (Kd.C_below HR.out (below_alloc (Below.refl w.heap.size w) (.cells #[.int .i64 we, .slice A l.length c] 24))) HW.out HN.out)
  have HB := Aside0.mk hb2; clear hb2
  go_wp2_with fail
  refine (is_calls _ _ HDB.out _).mono ?_; rintro e w3 ⟨rfl, ⟨q3, rfl⟩⟩
  go_wp2_with fail
  go_ret2
  exact ⟨ret_bp HT.out, fin (HB.out.drewN _)⟩
set_option maxHeartbeats 2000000 in
set_option maxRecDepth 100000 in
theorem Adjust_calls (we : Int) (A : Option Addr) (c : Nat) (l : List S63) (n way : Int) (w : World) (hr : Kd.C k63 w A l.length l) (hw : ∀ x ∈ l, wfS x) :
  Calls Try.prog 38 #[.agg #[.int .i64 we, .slice A l.length c], .int .i64 n, .int .i64 way] w fun e w' => e = .returned (.tuple #[.int .i64 (M.Adjust we (l.map ru) n way).1, .int .i64 (M.Adjust we (l.map ru) n way).2]) ∧ Below w.heap.size w w' := by
 have HR := Aside0.mk hr;have HW := Aside0.mk hw;clear hr hw
 by_cases hne : (M.chk we (l.map ru)).1 = 0
 rotate_left
 ·
  have HT := Aside0.mk (show (0, (M.chk we (l.map ru)).1) = M.Adjust we (l.map ru) n way by unfold M.Adjust; rw [if_neg hne])
  have hb : ((M.chk we (l.map ru)).1 != 0) = true := by simpa using hne
  have HN := Aside0.mk hne; clear hne
  go_enter Try.func38, Try.ntmps38
  go_wp2_with fail
  refine (begin_err we A c l _ (Kd.C_below HR.out (below_alloc (Below.refl _ _) _)) HW.out HN.out).mono ?_; rintro e w2 ⟨rfl, hb2⟩
  have HB2 := Aside0.mk (below_step (below_alloc (Below.refl _ _) _) hb2); clear hb2
  go_wp2_with fail
  go_ret2
  exact ⟨ret_pair HT.out, HB2.out⟩
 have HN := Aside0.mk hne
 have HU := Aside0.mk (show M.Adjust we (l.map ru) n way = _ by unfold M.Adjust; rw [if_pos hne])
 clear hne
 by_cases hk : way < 0 ∨ way > 4
 ·
  have HT := Aside0.mk (show (0, 90) = M.Adjust we (l.map ru) n way by rw [HU.out, if_pos hk])
  by_cases h0 : way < 0
  ·
   clear hk
   go_enter Try.func38, Try.ntmps38
   go_wp2_with fail
   refine (begin_ok we A c l _ (Kd.C_below HR.out (below_alloc (Below.refl _ _) _)) HW.out HN.out).mono ?_; rintro e w2 ⟨bb, rfl, hb2⟩
   have HO := Aside0.mk (ok_of we A l _ (Kd.C_below HR.out (below_alloc (Below.refl w.heap.size w) (.cells #[.int .i64 we, .slice A l.length c] 24))) HW.out HN.out)
   have HB := Aside0.mk hb2; clear hb2
   go_wp2_with fail
   go_ret2
   exact ⟨ret_pair HT.out, fin HB.out⟩
  ·
   have h4 : 4 < way := by omega
   clear hk
   go_enter Try.func38, Try.ntmps38
   go_wp2_with fail
   refine (begin_ok we A c l _ (Kd.C_below HR.out (below_alloc (Below.refl _ _) _)) HW.out HN.out).mono ?_; rintro e w2 ⟨bb, rfl, hb2⟩
   have HO := Aside0.mk (ok_of we A l _ (Kd.C_below HR.out (below_alloc (Below.refl w.heap.size w) (.cells #[.int .i64 we, .slice A l.length c] 24))) HW.out HN.out)
   have HB := Aside0.mk hb2; clear hb2
   go_wp2_with fail
   go_ret2
   exact ⟨ret_pair HT.out, fin HB.out⟩
 have hk0 : ¬ way < 0 := by omega
 have hk4 : ¬ 4 < way := by omega
 by_cases hx : M.isDay n
 rotate_left
 ·
  have HT := Aside0.mk (show (0, 51) = M.Adjust we (l.map ru) n way by rw [HU.out, if_neg hk, if_neg hx])
  have HDB := Aside0.mk (decide_eq_false (show ¬ (0 ≤ n ∧ n ≤ 109572) from hx)); clear hx hk
  go_enter Try.func38, Try.ntmps38
  go_wp2_with fail
  refine (begin_ok we A c l _ (Kd.C_below HR.out (below_alloc (Below.refl _ _) _)) HW.out HN.out).mono ?_; rintro e w2 ⟨bb, rfl, hb2⟩
  have HO := Aside0.mk (ok_of we A l _ (Kd.C_below HR.out (below_alloc (Below.refl w.heap.size w) (.cells #[.int .i64 we, .slice A l.length c] 24))) HW.out HN.out)
  have HB := Aside0.mk hb2; clear hb2
  go_wp2_with fail
  refine (is_calls _ _ HDB.out _).mono ?_; rintro e w3 ⟨rfl, ⟨q3, rfl⟩⟩
  go_wp2_with fail
  go_ret2
  exact ⟨ret_pair HT.out, fin (HB.out.drewN _)⟩
 have HX := Aside0.mk hx
 have hx0 : -1 ≤ n := by have := hx.1; omega
 have hx1 : n ≤ 109573 := by have := hx.2; omega
 have HDB := Aside0.mk (decide_eq_true (show 0 ≤ n ∧ n ≤ 109572 from hx))
 have HV := Aside0.mk (show M.Adjust we (l.map ru) n way = _ by rw [HU.out, if_neg hk, if_pos hx])
 clear hx hk HU
 have hw5 : way = 1 ∨ way = 2 ∨ way = 3 ∨ way = 4 ∨ way = 0 := by omega
 rcases hw5 with rfl | rfl | rfl | rfl | rfl
 ·
  have HT := Aside0.mk (show M.next we (l.map ru) n 1 = M.Adjust we (l.map ru) n 1 by rw [HV.out]; rfl)
  clear HV
  go_enter Try.func38, Try.ntmps38
  go_wp2_with fail
  refine (begin_ok we A c l _ (Kd.C_below HR.out (below_alloc (Below.refl _ _) _)) HW.out HN.out).mono ?_; rintro e w2 ⟨bb, rfl, hb2⟩
  have HO := Aside0.mk (ok_of we A l _ (Kd.C_below HR.out (below_alloc (Below.refl w.heap.size w) (.cells #[.int .i64 we, .slice A l.length c] 24))) HW.out HN.out)
  have HB := Aside0.mk hb2; clear hb2
  go_wp2_with fail
  refine (is_calls _ _ HDB.out _).mono ?_; rintro e w3 ⟨rfl, ⟨q3, rfl⟩⟩
  go_wp2_with fail
  refine (next_calls _ _ bb we A c l 0 _ _ (by repeat (with_reducible first | exact HB.out | refine Book.drewN ?_ _ | refine Book.drew ?_)) HO.out (.inl rfl) hx0 hx1 (by unfold maxLen; omega)).mono ?_; rw [HT.out]; rintro e w4 ⟨rfl, hb4⟩
  have HB4 := Aside0.mk hb4; clear hb4
  go_wp2_with fail
  go_ret2
  exact ⟨rfl, fin HB4.out⟩
 ·
  have HT := Aside0.mk (show M.next we (l.map ru) n (-1) = M.Adjust we (l.map ru) n 2 by rw [HV.out]; rfl)
  clear HV
  go_enter Try.func38, Try.ntmps38
  go_wp2_with fail
  refine (begin_ok we A c l _ (Kd.C_below HR.out (below_alloc (Below.refl _ _) _)) HW.out HN.out).mono ?_; rintro e w2 ⟨bb, rfl, hb2⟩
  have HO := Aside0.mk (ok_of we A l _ (Kd.C_below HR.out (below_alloc (Below.refl w.heap.size w) (.cells #[.int .i64 we, .slice A l.length c] 24))) HW.out HN.out)
  have HB := Aside0.mk hb2; clear hb2
  go_wp2_with fail
  refine (is_calls _ _ HDB.out _).mono ?_; rintro e w3 ⟨rfl, ⟨q3, rfl⟩⟩
  go_wp2_with fail
  refine (next_calls _ _ bb we A c l 0 _ _ (by repeat (with_reducible first | exact HB.out | refine Book.drewN ?_ _ | refine Book.drew ?_)) HO.out (.inr rfl) hx0 hx1 (by unfold maxLen; omega)).mono ?_; rw [HT.out]; rintro e w4 ⟨rfl, hb4⟩
  have HB4 := Aside0.mk hb4; clear hb4
  go_wp2_with fail
  go_ret2
  exact ⟨rfl, fin HB4.out⟩
 ·
  have HT := Aside0.mk (show M.kept we (l.map ru) n 1 = M.Adjust we (l.map ru) n 3 by rw [HV.out]; rfl)
  clear HV
  go_enter Try.func38, Try.ntmps38
  go_wp2_with fail
  refine (begin_ok we A c l _ (Kd.C_below HR.out (below_alloc (Below.refl _ _) _)) HW.out HN.out).mono ?_; rintro e w2 ⟨bb, rfl, hb2⟩
  have HO := Aside0.mk (ok_of we A l _ (Kd.C_below HR.out (below_alloc (Below.refl w.heap.size w) (.cells #[.int .i64 we, .slice A l.length c] 24))) HW.out HN.out)
  have HB := Aside0.mk hb2; clear hb2
  go_wp2_with fail
  refine (is_calls _ _ HDB.out _).mono ?_; rintro e w3 ⟨rfl, ⟨q3, rfl⟩⟩
  go_wp2_with fail
  refine (kept_calls _ _ bb we A c l 0 _ _ (by repeat (with_reducible first | exact HB.out | refine Book.drewN ?_ _ | refine Book.drew ?_)) HO.out (.inl rfl) HX.out (by unfold maxLen; omega)).mono ?_; rw [HT.out]; rintro e w4 ⟨rfl, hb4⟩
  have HB4 := Aside0.mk hb4; clear hb4
  go_wp2_with fail
  go_ret2
  exact ⟨rfl, fin HB4.out⟩
 ·
  have HT := Aside0.mk (show M.kept we (l.map ru) n (-1) = M.Adjust we (l.map ru) n 4 by rw [HV.out]; rfl)
  clear HV
  go_enter Try.func38, Try.ntmps38
  go_wp2_with fail
  refine (begin_ok we A c l _ (Kd.C_below HR.out (below_alloc (Below.refl _ _) _)) HW.out HN.out).mono ?_; rintro e w2 ⟨bb, rfl, hb2⟩
  have HO := Aside0.mk (ok_of we A l _ (Kd.C_below HR.out (below_alloc (Below.refl w.heap.size w) (.cells #[.int .i64 we, .slice A l.length c] 24))) HW.out HN.out)
  have HB := Aside0.mk hb2; clear hb2
  go_wp2_with fail
  refine (is_calls _ _ HDB.out _).mono ?_; rintro e w3 ⟨rfl, ⟨q3, rfl⟩⟩
  go_wp2_with fail
  refine (kept_calls _ _ bb we A c l 0 _ _ (by repeat (with_reducible first | exact HB.out | refine Book.drewN ?_ _ | refine Book.drew ?_)) HO.out (.inr rfl) HX.out (by unfold maxLen; omega)).mono ?_; rw [HT.out]; rintro e w4 ⟨rfl, hb4⟩
  have HB4 := Aside0.mk hb4; clear hb4
  go_wp2_with fail
  go_ret2
  exact ⟨rfl, fin HB4.out⟩
 ·
  have HT := Aside0.mk (show (n, 0) = M.Adjust we (l.map ru) n 0 by rw [HV.out]; rfl)
  clear HV
  go_enter Try.func38, Try.ntmps38
  go_wp2_with fail
  refine (begin_ok we A c l _ (Kd.C_below HR.out (below_alloc (Below.refl _ _) _)) HW.out HN.out).mono ?_; rintro e w2 ⟨bb, rfl, hb2⟩
  have HO := Aside0.mk (ok_of we A l _ (Kd.C_below HR.out (below_alloc (Below.refl w.heap.size w) (.cells #[.int .i64 we, .slice A l.length c] 24))) HW.out HN.out)
  have HB := Aside0.mk hb2; clear hb2
  go_wp2_with fail
  refine (is_calls _ _ HDB.out _).mono ?_; rintro e w3 ⟨rfl, ⟨q3, rfl⟩⟩
  go_wp2_with fail
  go_ret2
  exact ⟨ret_pair HT.out, fin (HB.out.drewN _)⟩
end Go.Proofs.Ytoncignjcgjhhaa.H
namespace Go.Proofs.Ytoncignjcgjhhaa.Q
open Go.RowKit Go.Proofs.YtoncignjcgjhhaaW.PrintWords Go.Proofs.YtoncignjcgjhhaaW.PrintLast Go.Proofs.YtoncignjcgjhhaaW.PrintMore
attribute [local go_sem] max2_int min2_int max_two min_two max_three min_three max_four min_four   -- for this text's walks alone
def cal_Adjust.f (a0_0 : Int) (l0_1 : List S63) (a1 : Int) (a2 : Int) : Option (Int × Int) := if wfL l0_1 then some (Go.Proofs.Ytoncignjcgjhhaa.M.Adjust a0_0 (l0_1.map Go.Proofs.Ytoncignjcgjhhaa.H.ru) a1 a2) else none
theorem cal_Adjust.calls (a0_0 : Int) (A0_1 : Option Addr) (c0_1 : Nat) (l0_1 : List (S63)) (a1 : Int) (a2 : Int) (r1 : Int) (r2 : Int) (w : World) (hr0_1 : Kd.C k63 w A0_1 l0_1.length l0_1) (hc0_1 : l0_1.length ≤ c0_1) (h : cal_Adjust.f a0_0 l0_1 a1 a2 = some (r1, r2)) :
  Calls Try.prog 38 #[.agg #[.int .i64 a0_0, .slice A0_1 l0_1.length c0_1], .int .i64 a1, .int .i64 a2] w fun e w' => e = .returned (.tuple #[.int .i64 r1, .int .i64 r2]) ∧ Below w.heap.size w w' := by
 unfold cal_Adjust.f at h
 split at h
 ·
  rename_i hc
  have e := Option.some.inj h
  have c := Go.Proofs.Ytoncignjcgjhhaa.H.Adjust_calls a0_0 A0_1 c0_1 l0_1 a1 a2 w hr0_1 (wfL_mem hc)
  rw [e] at c
  exact c
 ·
  cases h
end Go.Proofs.Ytoncignjcgjhhaa.Q
namespace Go.Proofs.Ytoncignjcgjhhaa.H
open Go.RowKit Go.Maps Go.Proofs.YtoncignjcgjhhaaW.PrintWords Go.Proofs.YtoncignjcgjhhaaW.PrintLast Go.Proofs.YtoncignjcgjhhaaW.PrintMore
open Go.Proofs.Ytoncignjcgjhhaa.Q (S63 k63 z63)
theorem nextF_up (we : Int) (l : List M.Rul) : ∀ (f : Nat) (n : Int), (M.nextF we l 1 f n).2 = 0 → n ≤ (M.nextF we l 1 f n).1
 | 0, n, h => by simp [M.nextF] at h
 | f + 1, n, h => by
  unfold M.nextF at h ⊢
  split at h
  ·
   split at h
   ·
    rename_i a b; rw [if_pos a, if_pos b]; exact Int.le_refl _
   ·
    rename_i a b; rw [if_pos a, if_neg b]; have := nextF_up we l f (n + 1) h; omega
  ·
   simp at h
theorem nextF_down (we : Int) (l : List M.Rul) : ∀ (f : Nat) (n : Int), (M.nextF we l (-1) f n).2 = 0 → (M.nextF we l (-1) f n).1 ≤ n
 | 0, n, h => by simp [M.nextF] at h
 | f + 1, n, h => by
  unfold M.nextF at h ⊢
  split at h
  ·
   split at h
   ·
    rename_i a b; rw [if_pos a, if_pos b]; exact Int.le_refl _
   ·
    rename_i a b; rw [if_pos a, if_neg b]; have := nextF_down we l f (n + -1) h; omega
  ·
   simp at h
theorem addF_zero {we : Int} {l : List M.Rul} {d : Int} {f : Nat} {n : Int} {ans : Int × Int} (h : M.addF we l d f n 0 = ans) (hf : f ≠ 0) : (n, 0) = ans := by
  obtain ⟨k, rfl⟩ : ∃ k, f = k + 1 := ⟨f - 1, by omega⟩
  unfold M.addF at h; rw [if_pos rfl] at h; exact h
theorem addF_on {we : Int} {l : List M.Rul} {d : Int} {f : Nat} {n j : Int} {ans p : Int × Int} (h : M.addF we l d f n j = ans) (hf : f ≠ 0) (hj : ¬ j = 0) (hp : M.next we l (n + d) d = p) (h2 : p.2 = 0) : M.addF we l d (f - 1) p.1 (j - d) = ans := by
 subst hp
 obtain ⟨k, rfl⟩ : ∃ k, f = k + 1 := ⟨f - 1, by omega⟩
 unfold M.addF at h; rw [if_neg hj, if_pos h2] at h; exact h
theorem addF_out {we : Int} {l : List M.Rul} {d : Int} {f : Nat} {n j : Int} {ans p : Int × Int} (h : M.addF we l d f n j = ans) (hf : f ≠ 0) (hj : ¬ j = 0) (hp : M.next we l (n + d) d = p) (h2 : ¬ p.2 = 0) : (0, 51) = ans := by
 subst hp
 obtain ⟨k, rfl⟩ : ∃ k, f = k + 1 := ⟨f - 1, by omega⟩
 unfold M.addF at h; rw [if_neg hj, if_neg h2] at h; exact h
set_option maxHeartbeats 2000000 in
set_option maxRecDepth 100000 in
theorem Add_calls (we : Int) (A : Option Addr) (c : Nat) (l : List S63) (n k : Int) (w : World) (hr : Kd.C k63 w A l.length l) (hw : ∀ x ∈ l, wfS x) (hk64 : L.i64 k) :
  Calls Try.prog 40 #[.agg #[.int .i64 we, .slice A l.length c], .int .i64 n, .int .i64 k] w fun e w' => e = .returned (.tuple #[.int .i64 (M.Add we (l.map ru) n k).1, .int .i64 (M.Add we (l.map ru) n k).2]) ∧ Below w.heap.size w w' := by
 have HR := Aside0.mk hr;have HW := Aside0.mk hw;clear hr hw
 by_cases hne : (M.chk we (l.map ru)).1 = 0
 rotate_left
 ·
  have HT := Aside0.mk (show (0, (M.chk we (l.map ru)).1) = M.Add we (l.map ru) n k by unfold M.Add; rw [if_neg hne])
  have hb : ((M.chk we (l.map ru)).1 != 0) = true := by simpa using hne
  have HN := Aside0.mk hne; clear hne
  go_enter Try.func40, Try.ntmps40
  go_wp2_with fail
  refine (begin_err we A c l _ (Kd.C_below HR.out (below_alloc (Below.refl _ _) _)) HW.out HN.out).mono ?_; rintro e w2 ⟨rfl, hb2⟩
  have HB2 := Aside0.mk (below_step (below_alloc (Below.refl _ _) _) hb2); clear hb2
  go_wp2_with fail
  go_ret2
  exact ⟨ret_pair HT.out, HB2.out⟩
 have HN := Aside0.mk hne
 have HU := Aside0.mk (show M.Add we (l.map ru) n k = _ by unfold M.Add; rw [if_pos hne])
 clear hne;have hk64a := hk64.1;have hk64b := hk64.2;clear hk64
 by_cases hx : M.isDay n
 rotate_left
 ·
  have HT := Aside0.mk (show (0, 51) = M.Add we (l.map ru) n k by rw [HU.out, if_neg hx])
  have HDB := Aside0.mk (decide_eq_false (show ¬ (0 ≤ n ∧ n ≤ 109572) from hx)); clear hx
  go_enter Try.func40, Try.ntmps40
  go_wp2_with fail
  refine (begin_ok we A c l _ (Kd.C_below HR.out (below_alloc (Below.refl _ _) _)) HW.out HN.out).mono ?_; rintro e w2 ⟨bb, rfl, hb2⟩
  have HO := Aside0.mk (ok_of we A l _ (Kd.C_below HR.out (below_alloc (Below.refl w.heap.size w) (.cells #[.int .i64 we, .slice A l.length c] 24))) HW.out HN.out)
  have HB := Aside0.mk hb2; clear hb2
  go_wp2_with fail
  refine (is_calls _ _ HDB.out _).mono ?_; rintro e w3 ⟨rfl, ⟨q3, rfl⟩⟩
  go_wp2_with fail
  go_ret2
  exact ⟨ret_pair HT.out, fin (HB.out.drewN _)⟩
 have HX := Aside0.mk hx
 have hx0 : -1 ≤ n := by have := hx.1; omega
 have hx1 : n ≤ 109573 := by have := hx.2; omega
 have HDB := Aside0.mk (decide_eq_true (show 0 ≤ n ∧ n ≤ 109572 from hx))
 have HV := Aside0.mk (show M.Add we (l.map ru) n k = _ by rw [HU.out, if_pos hx])
 clear hx HU
 by_cases hk : k = 0
 ·
  subst hk
  have HT := Aside0.mk (show M.next we (l.map ru) n 1 = M.Add we (l.map ru) n 0 by rw [HV.out, if_pos rfl])
  clear HV
  go_enter Try.func40, Try.ntmps40
  go_wp2_with fail
  refine (begin_ok we A c l _ (Kd.C_below HR.out (below_alloc (Below.refl _ _) _)) HW.out HN.out).mono ?_; rintro e w2 ⟨bb, rfl, hb2⟩
  have HO := Aside0.mk (ok_of we A l _ (Kd.C_below HR.out (below_alloc (Below.refl w.heap.size w) (.cells #[.int .i64 we, .slice A l.length c] 24))) HW.out HN.out)
  have HB := Aside0.mk hb2; clear hb2
  go_wp2_with fail
  refine (is_calls _ _ HDB.out _).mono ?_; rintro e w3 ⟨rfl, ⟨q3, rfl⟩⟩
  go_wp2_with fail
  refine (next_calls _ _ bb we A c l 0 _ _ (by repeat (with_reducible first | exact HB.out | refine Book.drewN ?_ _ | refine Book.drew ?_)) HO.out (.inl rfl) hx0 hx1 (by unfold maxLen; omega)).mono ?_; rw [HT.out]; rintro e w4 ⟨rfl, hb4⟩
  have HB4 := Aside0.mk hb4; clear hb4
  go_wp2_with fail
  go_ret2
  exact ⟨rfl, fin HB4.out⟩
 have hkb : (k == 0) = false := by simpa using hk
 by_cases hneg : k < 0
 ·
  have HT := Aside0.mk (show M.addF we (l.map ru) (-1) 109580 n k = M.Add we (l.map ru) n k by rw [HV.out, if_neg hk, if_pos hneg])
  have hx0b : 0 ≤ n := HX.out.1
  have hx1b : n ≤ 109572 := HX.out.2
  clear HV
  go_enter Try.func40, Try.ntmps40
  go_wp2_with fail
  refine (begin_ok we A c l _ (Kd.C_below HR.out (below_alloc (Below.refl _ _) _)) HW.out HN.out).mono ?_; rintro e w2 ⟨bb, rfl, hb2⟩
  have HO := Aside0.mk (ok_of we A l _ (Kd.C_below HR.out (below_alloc (Below.refl w.heap.size w) (.cells #[.int .i64 we, .slice A l.length c] 24))) HW.out HN.out)
  have HB := Aside0.mk hb2; clear hb2
  go_wp2_with fail
  refine (is_calls _ _ HDB.out _).mono ?_; rintro e w3 ⟨rfl, ⟨q3, rfl⟩⟩
  go_wp2_with fail
  go_loopg [1, 2] 109580 (fun kq v1 v2 w' => ∃ y j : Int, 0 ≤ y ∧ y ≤ 109572 ∧ -9223372036854775808 ≤ j ∧ j ≤ 0 ∧ kq ≤ 109580 ∧ y < kq ∧ v1 = .int .i64 y ∧ v2 = .int .i64 j ∧ Aside0 (M.addF we (l.map ru) (-1) kq y j = M.Add we (l.map ru) n k) ∧ Aside0 (Book (w.alloc (.cells #[.int .i64 we, .slice A l.length c] 24)) w' bb we A c l (22000000 * (109580 - kq))))
  case atStart => exact ⟨n, k, by omega, by omega, by omega, by omega, by omega, by omega, rfl, rfl, HT, ⟨Book.mono (n := 0) (by repeat (with_reducible first | exact HB.out | refine Book.drewN ?_ _ | refine Book.drew ?_)) (by omega)⟩⟩
  case round =>
   obtain ⟨y, j, hy0, hy1, hj0, hj1, hkq, hfu, rfl, rfl, HF, HB2⟩ := hrel
   clear HB
   have hgk : gk ≠ 0 := by omega
   by_cases hj : j = 0
   ·
    subst hj
    have HE := Aside0.mk (addF_zero HF.out hgk)
    go_wp2_with fail
    go_ret2
    exact ⟨ret_pair HE.out, fin HB2.out⟩
   ·
    have hjb : (j != 0) = true := by simpa using hj
    have hjs : j ≤ -1 := by omega
    obtain ⟨p, hp⟩ : ∃ p, M.next we (l.map ru) (y + (-1)) (-1) = p := ⟨_, rfl⟩
    have hres := M.next_res we (l.map ru) (y + (-1)) (-1)
    have hmv := nextF_down we (l.map ru) 109580 (y + (-1))
    have e : M.nextF we (l.map ru) (-1) 109580 (y + (-1)) = p := hp
    rw [e] at hmv
    rw [hp] at hres
    by_cases h2 : p.2 = 0
    ·
     have HE := Aside0.mk (addF_on HF.out hgk hj hp h2)
     have hmv2 := hmv h2;have HP := Aside0.mk hp
     obtain ⟨p1, p2⟩ := p
     simp only at h2 hres hmv2 HE
     subst h2
     have hday : M.isDay p1 := by rcases hres with h | h; (injection h with h1 h2; cases h2); exact h.2.1
     have hday0 := hday.1;have hday1 := hday.2;clear hres hmv e hp hday hj
     go_wp2_with fail
     refine (next_calls _ _ bb we A c l (22000000 * (109580 - gk)) _ _ HB2.out HO.out (.inr rfl) (by omega) (by omega) (by unfold maxLen; omega)).mono ?_; rw [HP.out]; rintro e w4 ⟨rfl, hb4⟩
     have HB4 := Aside0.mk hb4; clear hb4
     go_wp2_with fail
     go_roundg (gk - 1)
     case measure => omega
     case rel => exact ⟨p1, j - (-1), by omega, by omega, by omega, by omega, by omega, by omega, rfl, by go_num, HE, ⟨HB4.out.mono (by omega)⟩⟩
    ·
     have HE := Aside0.mk (addF_out HF.out hgk hj hp h2)
     have HP := Aside0.mk hp
     have hp51 : p = (0, 51) := by rcases hres with h | h; exact h; exact absurd h.1 h2
     subst hp51;clear hres hmv e hp h2 hj
     go_wp2_with fail
     refine (next_calls _ _ bb we A c l (22000000 * (109580 - gk)) _ _ HB2.out HO.out (.inr rfl) (by omega) (by omega) (by unfold maxLen; omega)).mono ?_; rw [HP.out]; rintro e w4 ⟨rfl, hb4⟩
     have HB4 := Aside0.mk hb4; clear hb4
     go_wp2_with fail
     go_ret2
     exact ⟨ret_pair HE.out, fin HB4.out⟩
 ·
  have HT := Aside0.mk (show M.addF we (l.map ru) 1 109580 n k = M.Add we (l.map ru) n k by rw [HV.out, if_neg hk, if_neg hneg])
  have hx0b : 0 ≤ n := HX.out.1
  have hx1b : n ≤ 109572 := HX.out.2
  clear HV
  go_enter Try.func40, Try.ntmps40
  go_wp2_with fail
  refine (begin_ok we A c l _ (Kd.C_below HR.out (below_alloc (Below.refl _ _) _)) HW.out HN.out).mono ?_; rintro e w2 ⟨bb, rfl, hb2⟩
  have HO := Aside0.mk (ok_of we A l _ (Kd.C_below HR.out (below_alloc (Below.refl w.heap.size w) (.cells #[.int .i64 we, .slice A l.length c] 24))) HW.out HN.out)
  have HB := Aside0.mk hb2; clear hb2
  go_wp2_with fail
  refine (is_calls _ _ HDB.out _).mono ?_; rintro e w3 ⟨rfl, ⟨q3, rfl⟩⟩
  go_wp2_with fail
  go_loopg [1, 2] 109580 (fun kq v1 v2 w' => ∃ y j : Int, 0 ≤ y ∧ y ≤ 109572 ∧ 0 ≤ j ∧ j ≤ 9223372036854775807 ∧ kq ≤ 109580 ∧ 109572 - y < kq ∧ v1 = .int .i64 y ∧ v2 = .int .i64 j ∧ Aside0 (M.addF we (l.map ru) 1 kq y j = M.Add we (l.map ru) n k) ∧ Aside0 (Book (w.alloc (.cells #[.int .i64 we, .slice A l.length c] 24)) w' bb we A c l (22000000 * (109580 - kq))))
  case atStart => exact ⟨n, k, by omega, by omega, by omega, by omega, by omega, by omega, rfl, rfl, HT, ⟨Book.mono (n := 0) (by repeat (with_reducible first | exact HB.out | refine Book.drewN ?_ _ | refine Book.drew ?_)) (by omega)⟩⟩
  case round =>
   obtain ⟨y, j, hy0, hy1, hj0, hj1, hkq, hfu, rfl, rfl, HF, HB2⟩ := hrel
   clear HB
   have hgk : gk ≠ 0 := by omega
   by_cases hj : j = 0
   ·
    subst hj
    have HE := Aside0.mk (addF_zero HF.out hgk)
    go_wp2_with fail
    go_ret2
    exact ⟨ret_pair HE.out, fin HB2.out⟩
   ·
    have hjb : (j != 0) = true := by simpa using hj
    have hjs : 1 ≤ j := by omega
    obtain ⟨p, hp⟩ : ∃ p, M.next we (l.map ru) (y + 1) 1 = p := ⟨_, rfl⟩
    have hres := M.next_res we (l.map ru) (y + 1) 1
    have hmv := nextF_up we (l.map ru) 109580 (y + 1)
    have e : M.nextF we (l.map ru) 1 109580 (y + 1) = p := hp
    rw [e] at hmv
    rw [hp] at hres
    by_cases h2 : p.2 = 0
    ·
     have HE := Aside0.mk (addF_on HF.out hgk hj hp h2)
     have hmv2 := hmv h2;have HP := Aside0.mk hp
     obtain ⟨p1, p2⟩ := p
     simp only at h2 hres hmv2 HE
     subst h2
     have hday : M.isDay p1 := by rcases hres with h | h; (injection h with h1 h2; cases h2); exact h.2.1
     have hday0 := hday.1;have hday1 := hday.2;clear hres hmv e hp hday hj
     go_wp2_with fail
     refine (next_calls _ _ bb we A c l (22000000 * (109580 - gk)) _ _ HB2.out HO.out (.inl rfl) (by omega) (by omega) (by unfold maxLen; omega)).mono ?_; rw [HP.out]; rintro e w4 ⟨rfl, hb4⟩
     have HB4 := Aside0.mk hb4; clear hb4
     go_wp2_with fail
     go_roundg (gk - 1)
     case measure => omega
     case rel => exact ⟨p1, j - 1, by omega, by omega, by omega, by omega, by omega, by omega, rfl, by go_num, HE, ⟨HB4.out.mono (by omega)⟩⟩
    ·
     have HE := Aside0.mk (addF_out HF.out hgk hj hp h2)
     have HP := Aside0.mk hp
     have hp51 : p = (0, 51) := by rcases hres with h | h; exact h; exact absurd h.1 h2
     subst hp51;clear hres hmv e hp h2 hj
     go_wp2_with fail
     refine (next_calls _ _ bb we A c l (22000000 * (109580 - gk)) _ _ HB2.out HO.out (.inl rfl) (by omega) (by omega) (by unfold maxLen; omega)).mono ?_; rw [HP.out]; rintro e w4 ⟨rfl, hb4⟩
     have HB4 := Aside0.mk hb4; clear hb4
     go_wp2_with fail
     go_ret2
     exact ⟨ret_pair HE.out, fin HB4.out⟩
end Go.Proofs.Ytoncignjcgjhhaa.H
namespace Go.Proofs.Ytoncignjcgjhhaa.Q
open Go.RowKit Go.Proofs.YtoncignjcgjhhaaW.PrintWords Go.Proofs.YtoncignjcgjhhaaW.PrintLast Go.Proofs.YtoncignjcgjhhaaW.PrintMore
attribute [local go_sem] max2_int min2_int max_two min_two max_three min_three max_four min_four   -- for this text's walks alone
def cal_Add.f (a0_0 : Int) (l0_1 : List S63) (a1 : Int) (a2 : Int) : Option (Int × Int) := if wfL l0_1 ∧ Go.Proofs.Ytoncignjcgjhhaa.L.i64 a2 then some (Go.Proofs.Ytoncignjcgjhhaa.M.Add a0_0 (l0_1.map Go.Proofs.Ytoncignjcgjhhaa.H.ru) a1 a2) else none
theorem cal_Add.calls (a0_0 : Int) (A0_1 : Option Addr) (c0_1 : Nat) (l0_1 : List (S63)) (a1 : Int) (a2 : Int) (r1 : Int) (r2 : Int) (w : World) (hr0_1 : Kd.C k63 w A0_1 l0_1.length l0_1) (hc0_1 : l0_1.length ≤ c0_1) (h : cal_Add.f a0_0 l0_1 a1 a2 = some (r1, r2)) :
  Calls Try.prog 40 #[.agg #[.int .i64 a0_0, .slice A0_1 l0_1.length c0_1], .int .i64 a1, .int .i64 a2] w fun e w' => e = .returned (.tuple #[.int .i64 r1, .int .i64 r2]) ∧ Below w.heap.size w w' := by
 unfold cal_Add.f at h
 split at h
 ·
  rename_i hc
  have e := Option.some.inj h
  have c := Go.Proofs.Ytoncignjcgjhhaa.H.Add_calls a0_0 A0_1 c0_1 l0_1 a1 a2 w hr0_1 (wfL_mem hc.1) hc.2
  rw [e] at c
  exact c
 ·
  cases h
end Go.Proofs.Ytoncignjcgjhhaa.Q
