/- The contracts of the calendar's calls: Add, Count. Conditions: the rules' numbers are of 64 bits; of Add, the number of days too. -/
import Derived.Test.YtoncignjcgjhhaaZGF
import Derived.Test.YtoncignjcgjhhaaZK
set_option linter.unusedVariables false
set_option linter.unusedSimpArgs false
namespace Go.Proofs.Ytoncignjcgjhhaa.H
open Go.RowKit Go.Maps Go.Proofs.YtoncignjcgjhhaaW.PrintWords Go.Proofs.YtoncignjcgjhhaaW.PrintLast Go.Proofs.YtoncignjcgjhhaaW.PrintMore
open Go.Proofs.Ytoncignjcgjhhaa.Q (S63 k63 z63)

theorem nextF_up (we : Int) (l : List M.Rul) : ∀ (f : Nat) (n : Int), (M.nextF we l 1 f n).2 = 0 → n ≤ (M.nextF we l 1 f n).1
  | 0, n, h => by simp [M.nextF] at h
  | f + 1, n, h => by
    unfold M.nextF at h ⊢
    split at h
    · split at h
      · rename_i a b; rw [if_pos a, if_pos b]; exact Int.le_refl _
      · rename_i a b; rw [if_pos a, if_neg b]; have := nextF_up we l f (n + 1) h; omega
    · simp at h
theorem nextF_down (we : Int) (l : List M.Rul) : ∀ (f : Nat) (n : Int), (M.nextF we l (-1) f n).2 = 0 → (M.nextF we l (-1) f n).1 ≤ n
  | 0, n, h => by simp [M.nextF] at h
  | f + 1, n, h => by
    unfold M.nextF at h ⊢
    split at h
    · split at h
      · rename_i a b; rw [if_pos a, if_pos b]; exact Int.le_refl _
      · rename_i a b; rw [if_pos a, if_neg b]; have := nextF_down we l f (n + -1) h; omega
    · simp at h

theorem addF_zero {we : Int} {l : List M.Rul} {d : Int} {f : Nat} {n : Int} {ans : Int × Int} (h : M.addF we l d f n 0 = ans) (hf : f ≠ 0) : (n, 0) = ans := by
  obtain ⟨k, rfl⟩ : ∃ k, f = k + 1 := ⟨f - 1, by omega⟩
  unfold M.addF at h; rw [if_pos rfl] at h; exact h
theorem addF_on {we : Int} {l : List M.Rul} {d : Int} {f : Nat} {n j : Int} {ans p : Int × Int} (h : M.addF we l d f n j = ans) (hf : f ≠ 0) (hj : ¬ j = 0) (hp : M.next we l (n + d) d = p) (h2 : p.2 = 0) : M.addF we l d (f - 1) p.1 (j - d) = ans := by
  subst hp
  obtain ⟨k, rfl⟩ : ∃ k, f = k + 1 := ⟨f - 1, by omega⟩
  unfold M.addF at h; rw [if_neg hj, if_pos h2] at h; exact h
theorem addF_out {we : Int} {l : List M.Rul} {d : Int} {f : Nat} {n j : Int} {ans p : Int × Int} (h : M.addF we l d f n j = ans) (hf : f ≠ 0) (hj : ¬ j = 0) (hp : M.next we l (n + d) d = p) (h2 : ¬ p.2 = 0) : (0, 51) = ans := by
  subst hp
  obtain ⟨k, rfl⟩ : ∃ k, f = k + 1 := ⟨f - 1, by omega⟩
  unfold M.addF at h; rw [if_neg hj, if_neg h2] at h; exact h

set_option maxHeartbeats 2000000 in
set_option maxRecDepth 100000 in
/-- 'cal.Add'. -/
theorem Add_calls (we : Int) (A : Option Addr) (c : Nat) (l : List S63) (n k : Int) (w : World) (hr : Kd.C k63 w A l.length l) (hw : ∀ x ∈ l, wfS x) (hk64 : L.i64 k) :
    Calls Try.prog 40 #[.agg #[.int .i64 we, .slice A l.length c], .int .i64 n, .int .i64 k] w fun e w' => e = .returned (.tuple #[.int .i64 (M.Add we (l.map ru) n k).1, .int .i64 (M.Add we (l.map ru) n k).2]) ∧ Below w.heap.size w w' := by
  have HR := Aside0.mk hr
  have HW := Aside0.mk hw
  clear hr hw
  by_cases hne : (M.chk we (l.map ru)).1 = 0
  rotate_left
  · have HT := Aside0.mk (show (0, (M.chk we (l.map ru)).1) = M.Add we (l.map ru) n k by unfold M.Add; rw [if_neg hne])
    have hb : ((M.chk we (l.map ru)).1 != 0) = true := by simpa using hne
    have HN := Aside0.mk hne; clear hne
    go_enter Try.func40, Try.ntmps40
    go_wp2_with fail
    refine (begin_err we A c l _ (Kd.C_below HR.out (below_alloc (Below.refl _ _) _)) HW.out HN.out).mono ?_; rintro e w2 ⟨rfl, hb2⟩
    have HB2 := Aside0.mk (below_step (below_alloc (Below.refl _ _) _) hb2); clear hb2
    go_wp2_with fail
    go_ret2
    exact ⟨ret_pair HT.out, HB2.out⟩
  have HN := Aside0.mk hne
  have HU := Aside0.mk (show M.Add we (l.map ru) n k = _ by unfold M.Add; rw [if_pos hne])
  clear hne
  have hk64a := hk64.1
  have hk64b := hk64.2
  clear hk64
  by_cases hx : M.isDay n
  rotate_left
  · have HT := Aside0.mk (show (0, 51) = M.Add we (l.map ru) n k by rw [HU.out, if_neg hx])
    have HDB := Aside0.mk (decide_eq_false (show ¬ (0 ≤ n ∧ n ≤ 109572) from hx)); clear hx
    go_enter Try.func40, Try.ntmps40
    go_wp2_with fail
    refine (begin_ok we A c l _ (Kd.C_below HR.out (below_alloc (Below.refl _ _) _)) HW.out HN.out).mono ?_; rintro e w2 ⟨bb, rfl, hb2⟩
    have HO := Aside0.mk (ok_of we A l _ (Kd.C_below HR.out (below_alloc (Below.refl w.heap.size w) (.cells #[.int .i64 we, .slice A l.length c] 24))) HW.out HN.out)
    have HB := Aside0.mk hb2; clear hb2
    go_wp2_with fail
    refine (is_calls _ _ HDB.out _).mono ?_; rintro e w3 ⟨rfl, ⟨q3, rfl⟩⟩
    go_wp2_with fail
    go_ret2
    exact ⟨ret_pair HT.out, fin (HB.out.drewN _)⟩
  have HX := Aside0.mk hx
  have hx0 : -1 ≤ n := by have := hx.1; omega
  have hx1 : n ≤ 109573 := by have := hx.2; omega
  have HDB := Aside0.mk (decide_eq_true (show 0 ≤ n ∧ n ≤ 109572 from hx))
  have HV := Aside0.mk (show M.Add we (l.map ru) n k = _ by rw [HU.out, if_pos hx])
  clear hx HU
  by_cases hk : k = 0
  · subst hk
    have HT := Aside0.mk (show M.next we (l.map ru) n 1 = M.Add we (l.map ru) n 0 by rw [HV.out, if_pos rfl])
    clear HV
    go_enter Try.func40, Try.ntmps40
    go_wp2_with fail
    refine (begin_ok we A c l _ (Kd.C_below HR.out (below_alloc (Below.refl _ _) _)) HW.out HN.out).mono ?_; rintro e w2 ⟨bb, rfl, hb2⟩
    have HO := Aside0.mk (ok_of we A l _ (Kd.C_below HR.out (below_alloc (Below.refl w.heap.size w) (.cells #[.int .i64 we, .slice A l.length c] 24))) HW.out HN.out)
    have HB := Aside0.mk hb2; clear hb2
    go_wp2_with fail
    refine (is_calls _ _ HDB.out _).mono ?_; rintro e w3 ⟨rfl, ⟨q3, rfl⟩⟩
    go_wp2_with fail
    refine (next_calls _ _ bb we A c l 0 _ _ (by repeat (with_reducible first | exact HB.out | refine Book.drewN ?_ _ | refine Book.drew ?_)) HO.out (.inl rfl) hx0 hx1 (by unfold maxLen; omega)).mono ?_; rw [HT.out]; rintro e w4 ⟨rfl, hb4⟩
    have HB4 := Aside0.mk hb4; clear hb4
    go_wp2_with fail
    go_ret2
    exact ⟨rfl, fin HB4.out⟩
  have hkb : (k == 0) = false := by simpa using hk
  by_cases hneg : k < 0
  · have HT := Aside0.mk (show M.addF we (l.map ru) (-1) 109580 n k = M.Add we (l.map ru) n k by rw [HV.out, if_neg hk, if_pos hneg])
    have hx0b : 0 ≤ n := HX.out.1
    have hx1b : n ≤ 109572 := HX.out.2
    clear HV
    go_enter Try.func40, Try.ntmps40
    go_wp2_with fail
    refine (begin_ok we A c l _ (Kd.C_below HR.out (below_alloc (Below.refl _ _) _)) HW.out HN.out).mono ?_; rintro e w2 ⟨bb, rfl, hb2⟩
    have HO := Aside0.mk (ok_of we A l _ (Kd.C_below HR.out (below_alloc (Below.refl w.heap.size w) (.cells #[.int .i64 we, .slice A l.length c] 24))) HW.out HN.out)
    have HB := Aside0.mk hb2; clear hb2
    go_wp2_with fail
    refine (is_calls _ _ HDB.out _).mono ?_; rintro e w3 ⟨rfl, ⟨q3, rfl⟩⟩
    go_wp2_with fail
    go_loopg [1, 2] 109580 (fun kq v1 v2 w' => ∃ y j : Int, 0 ≤ y ∧ y ≤ 109572 ∧ -9223372036854775808 ≤ j ∧ j ≤ 0 ∧ kq ≤ 109580 ∧ y < kq ∧ v1 = .int .i64 y ∧ v2 = .int .i64 j ∧ Aside0 (M.addF we (l.map ru) (-1) kq y j = M.Add we (l.map ru) n k) ∧ Aside0 (Book (w.alloc (.cells #[.int .i64 we, .slice A l.length c] 24)) w' bb we A c l (22000000 * (109580 - kq))))
    case atStart => exact ⟨n, k, by omega, by omega, by omega, by omega, by omega, by omega, rfl, rfl, HT, ⟨Book.mono (n := 0) (by repeat (with_reducible first | exact HB.out | refine Book.drewN ?_ _ | refine Book.drew ?_)) (by omega)⟩⟩
    case round =>
      obtain ⟨y, j, hy0, hy1, hj0, hj1, hkq, hfu, rfl, rfl, HF, HB2⟩ := hrel
      clear HB
      have hgk : gk ≠ 0 := by omega
      by_cases hj : j = 0
      · subst hj
        have HE := Aside0.mk (addF_zero HF.out hgk)
        go_wp2_with fail
        go_ret2
        exact ⟨ret_pair HE.out, fin HB2.out⟩
      · have hjb : (j != 0) = true := by simpa using hj
        have hjs : j ≤ -1 := by omega
        obtain ⟨p, hp⟩ : ∃ p, M.next we (l.map ru) (y + (-1)) (-1) = p := ⟨_, rfl⟩
        have hres := M.next_res we (l.map ru) (y + (-1)) (-1)
        have hmv := nextF_down we (l.map ru) 109580 (y + (-1))
        have e : M.nextF we (l.map ru) (-1) 109580 (y + (-1)) = p := hp
        rw [e] at hmv
        rw [hp] at hres
        by_cases h2 : p.2 = 0
        · have HE := Aside0.mk (addF_on HF.out hgk hj hp h2)
          have hmv2 := hmv h2
          have HP := Aside0.mk hp
          obtain ⟨p1, p2⟩ := p
          simp only at h2 hres hmv2 HE
          subst h2
          have hday : M.isDay p1 := by rcases hres with h | h; (injection h with h1 h2; cases h2); exact h.2.1
          have hday0 := hday.1
          have hday1 := hday.2
          clear hres hmv e hp hday hj
          go_wp2_with fail
          refine (next_calls _ _ bb we A c l (22000000 * (109580 - gk)) _ _ HB2.out HO.out (.inr rfl) (by omega) (by omega) (by unfold maxLen; omega)).mono ?_; rw [HP.out]; rintro e w4 ⟨rfl, hb4⟩
          have HB4 := Aside0.mk hb4; clear hb4
          go_wp2_with fail
          go_roundg (gk - 1)
          case measure => omega
          case rel => exact ⟨p1, j - (-1), by omega, by omega, by omega, by omega, by omega, by omega, rfl, by go_num, HE, ⟨HB4.out.mono (by omega)⟩⟩
        · have HE := Aside0.mk (addF_out HF.out hgk hj hp h2)
          have HP := Aside0.mk hp
          have hp51 : p = (0, 51) := by rcases hres with h | h; exact h; exact absurd h.1 h2
          subst hp51
          clear hres hmv e hp h2 hj
          go_wp2_with fail
          refine (next_calls _ _ bb we A c l (22000000 * (109580 - gk)) _ _ HB2.out HO.out (.inr rfl) (by omega) (by omega) (by unfold maxLen; omega)).mono ?_; rw [HP.out]; rintro e w4 ⟨rfl, hb4⟩
          have HB4 := Aside0.mk hb4; clear hb4
          go_wp2_with fail
          go_ret2
          exact ⟨ret_pair HE.out, fin HB4.out⟩
  · have HT := Aside0.mk (show M.addF we (l.map ru) 1 109580 n k = M.Add we (l.map ru) n k by rw [HV.out, if_neg hk, if_neg hneg])
    have hx0b : 0 ≤ n := HX.out.1
    have hx1b : n ≤ 109572 := HX.out.2
    clear HV
    go_enter Try.func40, Try.ntmps40
    go_wp2_with fail
    refine (begin_ok we A c l _ (Kd.C_below HR.out (below_alloc (Below.refl _ _) _)) HW.out HN.out).mono ?_; rintro e w2 ⟨bb, rfl, hb2⟩
    have HO := Aside0.mk (ok_of we A l _ (Kd.C_below HR.out (below_alloc (Below.refl w.heap.size w) (.cells #[.int .i64 we, .slice A l.length c] 24))) HW.out HN.out)
    have HB := Aside0.mk hb2; clear hb2
    go_wp2_with fail
    refine (is_calls _ _ HDB.out _).mono ?_; rintro e w3 ⟨rfl, ⟨q3, rfl⟩⟩
    go_wp2_with fail
    go_loopg [1, 2] 109580 (fun kq v1 v2 w' => ∃ y j : Int, 0 ≤ y ∧ y ≤ 109572 ∧ 0 ≤ j ∧ j ≤ 9223372036854775807 ∧ kq ≤ 109580 ∧ 109572 - y < kq ∧ v1 = .int .i64 y ∧ v2 = .int .i64 j ∧ Aside0 (M.addF we (l.map ru) 1 kq y j = M.Add we (l.map ru) n k) ∧ Aside0 (Book (w.alloc (.cells #[.int .i64 we, .slice A l.length c] 24)) w' bb we A c l (22000000 * (109580 - kq))))
    case atStart => exact ⟨n, k, by omega, by omega, by omega, by omega, by omega, by omega, rfl, rfl, HT, ⟨Book.mono (n := 0) (by repeat (with_reducible first | exact HB.out | refine Book.drewN ?_ _ | refine Book.drew ?_)) (by omega)⟩⟩
    case round =>
      obtain ⟨y, j, hy0, hy1, hj0, hj1, hkq, hfu, rfl, rfl, HF, HB2⟩ := hrel
      clear HB
      have hgk : gk ≠ 0 := by omega
      by_cases hj : j = 0
      · subst hj
        have HE := Aside0.mk (addF_zero HF.out hgk)
        go_wp2_with fail
        go_ret2
        exact ⟨ret_pair HE.out, fin HB2.out⟩
      · have hjb : (j != 0) = true := by simpa using hj
        have hjs : 1 ≤ j := by omega
        obtain ⟨p, hp⟩ : ∃ p, M.next we (l.map ru) (y + 1) 1 = p := ⟨_, rfl⟩
        have hres := M.next_res we (l.map ru) (y + 1) 1
        have hmv := nextF_up we (l.map ru) 109580 (y + 1)
        have e : M.nextF we (l.map ru) 1 109580 (y + 1) = p := hp
        rw [e] at hmv
        rw [hp] at hres
        by_cases h2 : p.2 = 0
        · have HE := Aside0.mk (addF_on HF.out hgk hj hp h2)
          have hmv2 := hmv h2
          have HP := Aside0.mk hp
          obtain ⟨p1, p2⟩ := p
          simp only at h2 hres hmv2 HE
          subst h2
          have hday : M.isDay p1 := by rcases hres with h | h; (injection h with h1 h2; cases h2); exact h.2.1
          have hday0 := hday.1
          have hday1 := hday.2
          clear hres hmv e hp hday hj
          go_wp2_with fail
          refine (next_calls _ _ bb we A c l (22000000 * (109580 - gk)) _ _ HB2.out HO.out (.inl rfl) (by omega) (by omega) (by unfold maxLen; omega)).mono ?_; rw [HP.out]; rintro e w4 ⟨rfl, hb4⟩
          have HB4 := Aside0.mk hb4; clear hb4
          go_wp2_with fail
          go_roundg (gk - 1)
          case measure => omega
          case rel => exact ⟨p1, j - 1, by omega, by omega, by omega, by omega, by omega, by omega, rfl, by go_num, HE, ⟨HB4.out.mono (by omega)⟩⟩
        · have HE := Aside0.mk (addF_out HF.out hgk hj hp h2)
          have HP := Aside0.mk hp
          have hp51 : p = (0, 51) := by rcases hres with h | h; exact h; exact absurd h.1 h2
          subst hp51
          clear hres hmv e hp h2 hj
          go_wp2_with fail
          refine (next_calls _ _ bb we A c l (22000000 * (109580 - gk)) _ _ HB2.out HO.out (.inl rfl) (by omega) (by omega) (by unfold maxLen; omega)).mono ?_; rw [HP.out]; rintro e w4 ⟨rfl, hb4⟩
          have HB4 := Aside0.mk hb4; clear hb4
          go_wp2_with fail
          go_ret2
          exact ⟨ret_pair HE.out, fin HB4.out⟩

end Go.Proofs.Ytoncignjcgjhhaa.H
