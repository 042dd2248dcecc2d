/- Contracts and facts of functions of the program (calendar, dates and their documents), joined in one text by a program of this session. No condition but what each theorem states. -/
import Derived.Test.YtoncignjcgjhhaaCGH
import Derived.Test.YtoncignjcgjhhaaCGA
import Derived.Test.YtoncignjcgjhhaaCGC
import Derived.Test.YtoncignjcgjhhaaCGD
import Derived.Test.YtoncignjcgjhhaaCGF
import Derived.Test.YtoncignjcgjhhaaCGG
import Derived.Test.YtoncignjcgjhhaaCGE
import Derived.Test.YtoncignjcgjhhaaCGB
set_option linter.unusedVariables false
set_option linter.unusedSimpArgs false
namespace Go.Proofs.Ytoncignjcgjhhaa.H
open Go.RowKit Go.Maps Go.Proofs.YtoncignjcgjhhaaW.PrintWords Go.Proofs.YtoncignjcgjhhaaW.PrintLast Go.Proofs.YtoncignjcgjhhaaW.PrintMore
open Go.Proofs.Ytoncignjcgjhhaa.Q (S63 k63 z63)
attribute [local go_sem] xcC xcB
theorem cntF_on {we : Int} {l : List M.Rul} {f : Nat} {i s t : Int} (h : s + M.cntF we l f i = t) (hf : f ≠ 0) : (M.isOpen we l i = true → s + 1 + M.cntF we l (f - 1) (i + 1) = t) ∧ (M.isOpen we l i = false → s + M.cntF we l (f - 1) (i + 1) = t) := by
 obtain ⟨k, rfl⟩ : ∃ k, f = k + 1 := ⟨f - 1, by omega⟩
 unfold M.cntF at h
 constructor
 ·
  intro ho; rw [if_pos ho] at h; simp only [Nat.add_sub_cancel]; omega
 ·
  intro ho; rw [if_neg (by simp [ho])] at h; simp only [Nat.add_sub_cancel]; omega
set_option maxHeartbeats 2000000 in
set_option maxRecDepth 100000 in
theorem Count_calls (we : Int) (A : Option Addr) (c : Nat) (l : List S63) (a z : Int) (w : World) (hr : Kd.C k63 w A l.length l) (hw : ∀ x ∈ l, wfS x) :
  Calls Try.prog 42 #[.agg #[.int .i64 we, .slice A l.length c], .int .i64 a, .int .i64 z] w fun e w' => e = .returned (.tuple #[.int .i64 (M.Count we (l.map ru) a z).1, .int .i64 (M.Count we (l.map ru) a z).2]) ∧ Below w.heap.size w w' := by
 have HR := Aside0.mk hr;have HW := Aside0.mk hw;clear hr hw
 by_cases hne : (M.chk we (l.map ru)).1 = 0
 rotate_left
 ·
  have HT := Aside0.mk (show (0, (M.chk we (l.map ru)).1) = M.Count we (l.map ru) a z by unfold M.Count; rw [if_neg hne])
  have hb : ((M.chk we (l.map ru)).1 != 0) = true := by simpa using hne
  have HN := Aside0.mk hne; clear hne
  go_enter Try.func42, Try.ntmps42
  go_wp2_with fail
  refine (begin_err we A c l _ (Kd.xbT HR.out (xaB (Below.refl _ _) _)) HW.out HN.out).mono ?_; rintro e w2 ⟨rfl, hb2⟩
  have HB2 := Aside0.mk (xaP (xaB (Below.refl _ _) _) hb2); clear hb2
  go_wp2_with fail
  go_ret2
  exact ⟨xeK HT.out, HB2.out⟩
 have HN := Aside0.mk hne
 have HU := Aside0.mk (show M.Count we (l.map ru) a z = _ by unfold M.Count; rw [if_pos hne])
 clear hne
 by_cases ha : M.isDay a
 rotate_left
 ·
  have HT := Aside0.mk (show (0, 51) = M.Count we (l.map ru) a z by rw [HU.out, if_neg (fun h => ha h.1)])
  have HDB := Aside0.mk (decide_eq_false (show ¬ (0 ≤ a ∧ a ≤ 109572) from ha)); clear ha
  go_enter Try.func42, Try.ntmps42
  go_wp2_with fail
  refine (xhN we A c l _ (Kd.xbT HR.out (xaB (Below.refl _ _) _)) HW.out HN.out).mono ?_; rintro e w2 ⟨bb, rfl, hb2⟩
  have HO := Aside0.mk (ok_of we A l _ (Kd.xbT HR.out (xaB (Below.refl w.heap.size w) (.cells #[.int .i64 we, .slice A l.length c] 24))) HW.out HN.out)
  have HB := Aside0.mk hb2; clear hb2
  go_wp2_with fail
  refine (xdW _ _ HDB.out _).mono ?_; rintro e w3 ⟨rfl, ⟨q3, rfl⟩⟩
  go_wp2_with fail
  go_ret2
  exact ⟨xeK HT.out, fin (HB.out.drewN _)⟩
 have HDA := Aside0.mk (decide_eq_true (show 0 ≤ a ∧ a ≤ 109572 from ha))
 by_cases hz : M.isDay z
 rotate_left
 ·
  have HT := Aside0.mk (show (0, 51) = M.Count we (l.map ru) a z by rw [HU.out, if_neg (fun h => hz h.2)])
  have HDB := Aside0.mk (decide_eq_false (show ¬ (0 ≤ z ∧ z ≤ 109572) from hz)); clear ha hz
  go_enter Try.func42, Try.ntmps42
  go_wp2_with fail
  refine (xhN we A c l _ (Kd.xbT HR.out (xaB (Below.refl _ _) _)) HW.out HN.out).mono ?_; rintro e w2 ⟨bb, rfl, hb2⟩
  have HO := Aside0.mk (ok_of we A l _ (Kd.xbT HR.out (xaB (Below.refl w.heap.size w) (.cells #[.int .i64 we, .slice A l.length c] 24))) HW.out HN.out)
  have HB := Aside0.mk hb2; clear hb2
  go_wp2_with fail
  refine (xdW _ _ HDA.out _).mono ?_; rintro e w3 ⟨rfl, ⟨q3, rfl⟩⟩
  go_wp2_with fail
  refine (xdW _ _ HDB.out _).mono ?_; rintro e w4 ⟨rfl, ⟨q4, rfl⟩⟩
  go_wp2_with fail
  go_ret2
  exact ⟨xeK HT.out, fin (HB.out.drewN _)⟩
 have HDB := Aside0.mk (decide_eq_true (show 0 ≤ z ∧ z ≤ 109572 from hz))
 have HV := Aside0.mk (show M.Count we (l.map ru) a z = _ by rw [HU.out, if_pos ⟨ha, hz⟩])
 have ha0 := ha.1; have ha1 := ha.2; have hz0 := hz.1; have hz1 := hz.2
 clear ha hz HU
 by_cases hlt0 : z < a
 ·
  have HT := Aside0.mk (show (-(M.cntF we (l.map ru) (a - z).toNat z), 0) = M.Count we (l.map ru) a z by rw [HV.out, if_pos hlt0])
  clear HV
  go_enter Try.func42, Try.ntmps42
  go_wp2_with fail
  refine (xhN we A c l _ (Kd.xbT HR.out (xaB (Below.refl _ _) _)) HW.out HN.out).mono ?_; rintro e w2 ⟨bb, rfl, hb2⟩
  have HO := Aside0.mk (ok_of we A l _ (Kd.xbT HR.out (xaB (Below.refl w.heap.size w) (.cells #[.int .i64 we, .slice A l.length c] 24))) HW.out HN.out)
  have HB := Aside0.mk hb2; clear hb2
  go_wp2_with fail
  refine (xdW _ _ HDA.out _).mono ?_; rintro e w3 ⟨rfl, ⟨q3, rfl⟩⟩
  go_wp2_with fail
  refine (xdW _ _ HDB.out _).mono ?_; rintro e w4 ⟨rfl, ⟨q4, rfl⟩⟩
  go_wp2_with fail
  go_loopg [10, 11] (a - z).toNat (fun kq v1 v2 w' => ∃ s i : Int, 0 ≤ s ∧ s ≤ i ∧ z ≤ i ∧ i ≤ a ∧ a - i = kq ∧ kq ≤ 109580 ∧ v1 = .int .i64 s ∧ v2 = .int .i64 i ∧ Aside0 (s + M.cntF we (l.map ru) kq i = M.cntF we (l.map ru) (a - z).toNat z) ∧ Aside0 (Book (w.alloc (.cells #[.int .i64 we, .slice A l.length c] 24)) w' bb we A c l (200 * (109580 - kq))))
  case atStart => exact ⟨0, z, by omega, by omega, by omega, by omega, by omega, by omega, rfl, rfl, ⟨by omega⟩, ⟨Book.mono (n := 0) (by repeat (with_reducible first | exact HB.out | refine Book.drewN ?_ _ | refine Book.drew ?_)) (by omega)⟩⟩
  case round =>
   obtain ⟨s, i, hs0, hs1, hi0, hi1, hik, hkq, rfl, rfl, HF, HB2⟩ := hrel
   clear HB
   by_cases hlt : i < a
   ·
    have hgk : gk ≠ 0 := by omega
    obtain ⟨hs1, hs2⟩ := cntF_on HF.out hgk
    have hday : M.isDay i := ⟨by omega, by omega⟩
    have HDY := Aside0.mk hday;clear hday
    cases ho : M.isOpen we (l.map ru) i with
    | true =>
     have HE := Aside0.mk (hs1 ho); have HH := Aside0.mk ho; clear hs1 hs2 ho
     go_wp2_with fail
     refine (xgP _ _ bb we A c l (200 * (109580 - gk)) _ _ HH.out HB2.out HO.out HDY.out (by unfold maxLen; omega)).mono ?_; rintro e w5 ⟨rfl, hb5⟩
     have HB5 := Aside0.mk hb5; clear hb5
     go_wp2_with fail
     go_roundg (gk - 1)
     case measure => omega
     case rel => exact ⟨s + 1, i + 1, by omega, by omega, by omega, by omega, by omega, by omega, by go_num, by go_num, HE, ⟨HB5.out.mono (by omega)⟩⟩
    | false =>
     have HE := Aside0.mk (hs2 ho); have HH := Aside0.mk ho; clear hs1 hs2 ho
     go_wp2_with fail
     refine (xgP _ _ bb we A c l (200 * (109580 - gk)) _ _ HH.out HB2.out HO.out HDY.out (by unfold maxLen; omega)).mono ?_; rintro e w5 ⟨rfl, hb5⟩
     have HB5 := Aside0.mk hb5; clear hb5
     go_wp2_with fail
     go_roundg (gk - 1)
     case measure => omega
     case rel => exact ⟨s, i + 1, by omega, by omega, by omega, by omega, by omega, by omega, rfl, by go_num, HE, ⟨HB5.out.mono (by omega)⟩⟩
   ·
    have hgk : gk = 0 := by omega
    subst hgk
    have HE := Aside0.mk (show (-s, 0) = M.Count we (l.map ru) a z by rw [← HT.out, ← HF.out]; simp [M.cntF])
    go_wp2_with fail
    all_goals (go_ret2; exact ⟨xeK HE.out, fin HB2.out⟩)
 ·
  have HT := Aside0.mk (show (M.cntF we (l.map ru) (z - a).toNat a, 0) = M.Count we (l.map ru) a z by rw [HV.out, if_neg hlt0])
  clear HV
  go_enter Try.func42, Try.ntmps42
  go_wp2_with fail
  refine (xhN we A c l _ (Kd.xbT HR.out (xaB (Below.refl _ _) _)) HW.out HN.out).mono ?_; rintro e w2 ⟨bb, rfl, hb2⟩
  have HO := Aside0.mk (ok_of we A l _ (Kd.xbT HR.out (xaB (Below.refl w.heap.size w) (.cells #[.int .i64 we, .slice A l.length c] 24))) HW.out HN.out)
  have HB := Aside0.mk hb2; clear hb2
  go_wp2_with fail
  refine (xdW _ _ HDA.out _).mono ?_; rintro e w3 ⟨rfl, ⟨q3, rfl⟩⟩
  go_wp2_with fail
  refine (xdW _ _ HDB.out _).mono ?_; rintro e w4 ⟨rfl, ⟨q4, rfl⟩⟩
  go_wp2_with fail
  go_loopg [10, 11] (z - a).toNat (fun kq v1 v2 w' => ∃ s i : Int, 0 ≤ s ∧ s ≤ i ∧ a ≤ i ∧ i ≤ z ∧ z - i = kq ∧ kq ≤ 109580 ∧ v1 = .int .i64 s ∧ v2 = .int .i64 i ∧ Aside0 (s + M.cntF we (l.map ru) kq i = M.cntF we (l.map ru) (z - a).toNat a) ∧ Aside0 (Book (w.alloc (.cells #[.int .i64 we, .slice A l.length c] 24)) w' bb we A c l (200 * (109580 - kq))))
  case atStart => exact ⟨0, a, by omega, by omega, by omega, by omega, by omega, by omega, rfl, rfl, ⟨by omega⟩, ⟨Book.mono (n := 0) (by repeat (with_reducible first | exact HB.out | refine Book.drewN ?_ _ | refine Book.drew ?_)) (by omega)⟩⟩
  case round =>
   obtain ⟨s, i, hs0, hs1, hi0, hi1, hik, hkq, rfl, rfl, HF, HB2⟩ := hrel
   clear HB
   by_cases hlt : i < z
   ·
    have hgk : gk ≠ 0 := by omega
    obtain ⟨hs1, hs2⟩ := cntF_on HF.out hgk
    have hday : M.isDay i := ⟨by omega, by omega⟩
    have HDY := Aside0.mk hday;clear hday
    cases ho : M.isOpen we (l.map ru) i with
    | true =>
     have HE := Aside0.mk (hs1 ho); have HH := Aside0.mk ho; clear hs1 hs2 ho
     go_wp2_with fail
     refine (xgP _ _ bb we A c l (200 * (109580 - gk)) _ _ HH.out HB2.out HO.out HDY.out (by unfold maxLen; omega)).mono ?_; rintro e w5 ⟨rfl, hb5⟩
     have HB5 := Aside0.mk hb5; clear hb5
     go_wp2_with fail
     go_roundg (gk - 1)
     case measure => omega
     case rel => exact ⟨s + 1, i + 1, by omega, by omega, by omega, by omega, by omega, by omega, by go_num, by go_num, HE, ⟨HB5.out.mono (by omega)⟩⟩
    | false =>
     have HE := Aside0.mk (hs2 ho); have HH := Aside0.mk ho; clear hs1 hs2 ho
     go_wp2_with fail
     refine (xgP _ _ bb we A c l (200 * (109580 - gk)) _ _ HH.out HB2.out HO.out HDY.out (by unfold maxLen; omega)).mono ?_; rintro e w5 ⟨rfl, hb5⟩
     have HB5 := Aside0.mk hb5; clear hb5
     go_wp2_with fail
     go_roundg (gk - 1)
     case measure => omega
     case rel => exact ⟨s, i + 1, by omega, by omega, by omega, by omega, by omega, by omega, rfl, by go_num, HE, ⟨HB5.out.mono (by omega)⟩⟩
   ·
    have hgk : gk = 0 := by omega
    subst hgk
    have HE := Aside0.mk (show (s, 0) = M.Count we (l.map ru) a z by rw [← HT.out, ← HF.out]; simp [M.cntF])
    go_wp2_with fail
    all_goals (go_ret2; exact ⟨xeK HE.out, fin HB2.out⟩)
end Go.Proofs.Ytoncignjcgjhhaa.H
namespace Go.Proofs.Ytoncignjcgjhhaa.Q
open Go.RowKit Go.Proofs.YtoncignjcgjhhaaW.PrintWords Go.Proofs.YtoncignjcgjhhaaW.PrintLast Go.Proofs.YtoncignjcgjhhaaW.PrintMore
attribute [local go_sem] xcC xcB xcR xcQ xbX xbW xcF xcE   -- for this text's walks alone
def xfW.f (a0_0 : Int) (l0_1 : List S63) (a1 : Int) (a2 : Int) : Option (Int × Int) := if wfL l0_1 then some (Go.Proofs.Ytoncignjcgjhhaa.M.Count a0_0 (l0_1.map Go.Proofs.Ytoncignjcgjhhaa.H.ru) a1 a2) else none
theorem xfW.calls (a0_0 : Int) (A0_1 : Option Addr) (c0_1 : Nat) (l0_1 : List (S63)) (a1 : Int) (a2 : Int) (r1 : Int) (r2 : Int) (w : World) (hr0_1 : Kd.C k63 w A0_1 l0_1.length l0_1) (hc0_1 : l0_1.length ≤ c0_1) (h : xfW.f a0_0 l0_1 a1 a2 = some (r1, r2)) :
  Calls Try.prog 42 #[.agg #[.int .i64 a0_0, .slice A0_1 l0_1.length c0_1], .int .i64 a1, .int .i64 a2] w fun e w' => e = .returned (.tuple #[.int .i64 r1, .int .i64 r2]) ∧ Below w.heap.size w w' := by
 unfold xfW.f at h
 split at h
 ·
  rename_i hc
  have e := Option.some.inj h
  have c := Go.Proofs.Ytoncignjcgjhhaa.H.Count_calls a0_0 A0_1 c0_1 l0_1 a1 a2 w hr0_1 (wfL_mem hc)
  rw [e] at c
  exact c
 ·
  cases h
end Go.Proofs.Ytoncignjcgjhhaa.Q
namespace Go.Proofs.Ytoncignjcgjhhaa.Q
open Go.RowKit Go.Proofs.YtoncignjcgjhhaaW.PrintWords Go.Proofs.YtoncignjcgjhhaaW.PrintLast Go.Proofs.YtoncignjcgjhhaaW.PrintMore
attribute [local go_sem] xcC xcB xcR xcQ xbX xbW xcF xcE   -- for this text's walks alone
def xdT.f (k : Nat) (a0_0 : Int) (l0_1 : List (S63)) (a1 : Int) : Option (Bool) := (xcM.f a0_0 l0_1 a1).bind fun t230 => (if t230 = true then (some false) else ((xbD.f k a0_0 l0_1 a1).bind fun t231 => (some (!t231))))
set_option maxHeartbeats 8000000 in
set_option maxRecDepth 100000 in
theorem xdT.calls (k : Nat) (a0_0 : Int) (A0_1 : Option Addr) (c0_1 : Nat) (l0_1 : List (S63)) (a1 : Int) (r : Bool) (w : World) (hr0_1 : Kd.C k63 w A0_1 l0_1.length l0_1) (hc0_1 : l0_1.length ≤ c0_1) (h : xdT.f k a0_0 l0_1 a1 = some r) :
  Calls Try.prog 74 #[.agg #[.int .i64 a0_0, .slice A0_1 l0_1.length c0_1], .int .i64 a1] w fun e w' => e = .returned (.bool r) ∧ Below w.heap.size w w' := by
 have hu24 := Try.underlying24;have HR0_1 := Aside0.mk hr0_1;have HC0_1 := Aside0.mk hc0_1;clear hr0_1 hc0_1
 have HB := Aside0.mk (Below.refl w.heap.size w)
 have H : ((xcM.f a0_0 l0_1 a1).bind fun t230 => (if t230 = true then (some false) else ((xbD.f k a0_0 l0_1 a1).bind fun t231 => (some (!t231))))) = some r := h
 clear h;replace H := Option.bind_eq_some_iff.mp H
 obtain ⟨t230, A30, H⟩ := H
 replace H : (if t230 = true then (some false) else ((xbD.f k a0_0 l0_1 a1).bind fun t231 => (some (!t231)))) = some r := H
 have A3 := Aside0.mk A30;clear A30
 by_cases c4 : t230 = true
 ·
  subst c4
  have H1 : (some false) = some r := by rw [if_pos rfl] at H; exact H
  clear H;have H := H1;clear H1
  obtain rfl := Option.some.inj H
  go_enter Try.func74, Try.ntmps74
  go_wp2_with (first | ((with_reducible refine xbM (N := 2) rfl ?_); refine xbJ ?hg (N := 2) ?hd (cs := #[.int .i64 a0_0, .slice A0_1 l0_1.length c0_1]) (t := 24) ?hr ?_; (case hd => rfl); (case hg => rfl); (case hr => first | (go_simp; done) | (go_simp; rfl)); intro gb229 hg w5 hbox hb; have n0_ := Aside0.mk (xaP (by repeat (first | (with_reducible first | exact HB.out | apply xaB | apply xaA | apply xaC) | exact HB.out)) hb); have n1_ := Aside0.mk (hbox); have n2_ := Aside0.mk ((by rw [hg]; exact (xaR (by repeat (first | (with_reducible first | exact HB.out | apply xaB | apply xaA | apply xaC) | exact HB.out))) : w.heap.size ≤ gb229)); have n3_ := Aside0.mk ((by rw [hg]; exact (xaR (by repeat (first | (with_reducible first | exact HB.out | apply xaB | apply xaA | apply xaC) | exact HB.out))) : w.heap.size ≤ gb229)); clear HB; have HB := n0_; have BK229 := n1_; have GW229 := n2_; have GE229 := n3_; clear n0_ n1_ n2_ n3_; clear hb hbox hg; have hcz6_0 : w5.cell? ⟨gb229, 0, none⟩ = some (.int .i64 a0_0) := (xaE BK229.out 0).trans rfl; have hcz6_1 : w5.cell? ⟨gb229, 1, none⟩ = some (.slice A0_1 l0_1.length c0_1) := (xaE BK229.out 1).trans rfl; have hfz6_0 := xaD BK229.out 0; have hfz6_1 := xaD BK229.out 1) | ((with_reducible refine xaQ (f := 108) rfl ?_); refine goesL_ (some 7) rfl rfl Try.func108 (by kernel_rfl) rfl #[.agg #[.int .i64 a0_0, .slice A0_1 l0_1.length c0_1], .int .i64 a1] rfl (by (try simp only [List.map_toArray, List.map_cons, List.map_nil]); first | done | rfl | (simp only [List.length_drop, List.length_take]; rfl)) ?_; (with_reducible refine (xcM.calls a0_0 _ _ l0_1 a1 true _ ?side1 ?side2 A3.out).mono ?_); (case side1 => repeat (first | exact (Kd.xbT HR0_1.out HB.out) | (with_reducible refine Kd.xbF ?_ _) | (with_reducible refine Kd.xbE ?_ _) | (with_reducible refine Kd.C_drew ?_))); (case side2 => exact HC0_1.out); rintro e w7 ⟨rfl, hb⟩; refine ⟨_, rfl, ?_⟩; have n0_ := Aside0.mk (xaY (g := gb229) (o := .cells #[.int .i64 a0_0, .slice A0_1 l0_1.length c0_1] 24 (0, 0)) (by (with_reducible repeat (first | refine xaG ?_ _ | refine xaJ ?_ | refine xaH ?_ _)); exact BK229.out) hb); have n1_ := Aside0.mk (xaP (by repeat (first | (with_reducible first | exact HB.out | apply xaB | apply xaA | apply xaC | refine xaF ?_ GE229.out) | exact HB.out)) hb); clear BK229; clear HB; have BK229 := n0_; have HB := n1_; clear n0_ n1_; (try clear hb); (try clear hb2); (try clear hk); (try clear hi)))
  go_ret
  exact ⟨by first | rfl | (simp [xaL, xaK] <;> rfl) | (simp [*, xaL, xaK] <;> rfl), by repeat (first | (with_reducible first | exact HB.out | apply xaB | apply xaA | apply xaC | refine xaF ?_ GE229.out) | exact HB.out)⟩
 ·
  replace c4 := Bool.eq_false_iff.mpr c4;subst c4
  have H1 : ((xbD.f k a0_0 l0_1 a1).bind fun t231 => (some (!t231))) = some r := by rw [if_neg (show ¬ (false = true) by decide)] at H; exact H
  clear H;have H := H1;clear H1;replace H := Option.bind_eq_some_iff.mp H
  obtain ⟨t231, A80, H⟩ := H
  replace H : (some (!t231)) = some r := H
  have A8 := Aside0.mk A80;clear A80
  obtain rfl := Option.some.inj H
  go_enter Try.func74, Try.ntmps74
  go_wp2_with (first | ((with_reducible refine xbM (N := 2) rfl ?_); refine xbJ ?hg (N := 2) ?hd (cs := #[.int .i64 a0_0, .slice A0_1 l0_1.length c0_1]) (t := 24) ?hr ?_; (case hd => rfl); (case hg => rfl); (case hr => first | (go_simp; done) | (go_simp; rfl)); intro gb229 hg w9 hbox hb; have n0_ := Aside0.mk (xaP (by repeat (first | (with_reducible first | exact HB.out | apply xaB | apply xaA | apply xaC) | exact HB.out)) hb); have n1_ := Aside0.mk (hbox); have n2_ := Aside0.mk ((by rw [hg]; exact (xaR (by repeat (first | (with_reducible first | exact HB.out | apply xaB | apply xaA | apply xaC) | exact HB.out))) : w.heap.size ≤ gb229)); have n3_ := Aside0.mk ((by rw [hg]; exact (xaR (by repeat (first | (with_reducible first | exact HB.out | apply xaB | apply xaA | apply xaC) | exact HB.out))) : w.heap.size ≤ gb229)); clear HB; have HB := n0_; have BK229 := n1_; have GW229 := n2_; have GE229 := n3_; clear n0_ n1_ n2_ n3_; clear hb hbox hg; have hcz10_0 : w9.cell? ⟨gb229, 0, none⟩ = some (.int .i64 a0_0) := (xaE BK229.out 0).trans rfl; have hcz10_1 : w9.cell? ⟨gb229, 1, none⟩ = some (.slice A0_1 l0_1.length c0_1) := (xaE BK229.out 1).trans rfl; have hfz10_0 := xaD BK229.out 0; have hfz10_1 := xaD BK229.out 1) | ((with_reducible refine xaQ (f := 108) rfl ?_); refine goesL_ (some 7) rfl rfl Try.func108 (by kernel_rfl) rfl #[.agg #[.int .i64 a0_0, .slice A0_1 l0_1.length c0_1], .int .i64 a1] rfl (by (try simp only [List.map_toArray, List.map_cons, List.map_nil]); first | done | rfl | (simp only [List.length_drop, List.length_take]; rfl)) ?_; (with_reducible refine (xcM.calls a0_0 _ _ l0_1 a1 false _ ?side1 ?side2 A3.out).mono ?_); (case side1 => repeat (first | exact (Kd.xbT HR0_1.out HB.out) | (with_reducible refine Kd.xbF ?_ _) | (with_reducible refine Kd.xbE ?_ _) | (with_reducible refine Kd.C_drew ?_))); (case side2 => exact HC0_1.out); rintro e w11 ⟨rfl, hb⟩; refine ⟨_, rfl, ?_⟩; have n0_ := Aside0.mk (xaY (g := gb229) (o := .cells #[.int .i64 a0_0, .slice A0_1 l0_1.length c0_1] 24 (0, 0)) (by (with_reducible repeat (first | refine xaG ?_ _ | refine xaJ ?_ | refine xaH ?_ _)); exact BK229.out) hb); have n1_ := Aside0.mk (xaP (by repeat (first | (with_reducible first | exact HB.out | apply xaB | apply xaA | apply xaC | refine xaF ?_ GE229.out) | exact HB.out)) hb); clear BK229; clear HB; have BK229 := n0_; have HB := n1_; clear n0_ n1_; (try clear hb); (try clear hb2); (try clear hk); (try clear hi); have hcz12_0 : w11.cell? ⟨gb229, 0, none⟩ = some (.int .i64 a0_0) := (xaE BK229.out 0).trans rfl; have hcz12_1 : w11.cell? ⟨gb229, 1, none⟩ = some (.slice A0_1 l0_1.length c0_1) := (xaE BK229.out 1).trans rfl; have hfz12_0 := xaD BK229.out 0; have hfz12_1 := xaD BK229.out 1) | (go_at_call 76; (with_reducible refine (xbD.calls k a0_0 _ _ l0_1 a1 t231 _ ?side1 ?side2 A8.out).mono ?_); (case side1 => repeat (first | exact (Kd.xbT HR0_1.out HB.out) | (with_reducible refine Kd.xbF ?_ _) | (with_reducible refine Kd.xbE ?_ _) | (with_reducible refine Kd.C_drew ?_))); (case side2 => exact HC0_1.out); rintro e w13 ⟨rfl, hb⟩; have n0_ := Aside0.mk (xaY (g := gb229) (o := .cells #[.int .i64 a0_0, .slice A0_1 l0_1.length c0_1] 24 (0, 0)) (by (with_reducible repeat (first | refine xaG ?_ _ | refine xaJ ?_ | refine xaH ?_ _)); exact BK229.out) hb); have n1_ := Aside0.mk (xaP (by repeat (first | (with_reducible first | exact HB.out | apply xaB | apply xaA | apply xaC | refine xaF ?_ GE229.out) | exact HB.out)) hb); clear BK229; clear HB; have BK229 := n0_; have HB := n1_; clear n0_ n1_; (try clear hb); (try clear hb2); (try clear hk); (try clear hi)))
  go_ret
  exact ⟨by first | rfl | (simp [xaL, xaK] <;> rfl) | (simp [*, xaL, xaK] <;> rfl), by repeat (first | (with_reducible first | exact HB.out | apply xaB | apply xaA | apply xaC | refine xaF ?_ GE229.out) | exact HB.out)⟩
def xcP.f (a0 : Int) : Option (Bool) := (xdG.f a0 0 109572).bind fun t232 => (some t232)
set_option maxHeartbeats 8000000 in
set_option maxRecDepth 100000 in
theorem xcP.calls (a0 : Int) (r : Bool) (w : World) (h : xcP.f a0 = some r) :
  Calls Try.prog 80 #[.int .i64 a0] w fun e w' => e = .returned (.bool r) ∧ Drawn0 w w' := by
 have H : ((xdG.f a0 0 109572).bind fun t232 => (some t232)) = some r := h
 clear h;replace H := Option.bind_eq_some_iff.mp H
 obtain ⟨t232, A20, H⟩ := H
 replace H : (some t232) = some r := H
 have A2 := Aside0.mk A20;clear A20
 obtain rfl := Option.some.inj H
 go_enter Try.func80, Try.ntmps80
 go_wp2_with (first | ((with_reducible refine xaQ (f := 79) rfl ?_); refine goesL_ (some 4) rfl rfl Try.func79 (by kernel_rfl) rfl #[.int .i64 a0, .int .i64 0, .int .i64 109572] rfl (by (try simp only [List.map_toArray, List.map_cons, List.map_nil]); first | done | rfl | (simp only [List.length_drop, List.length_take]; rfl)) ?_; (with_reducible refine (xdG.calls a0 0 109572 t232 _ A2.out).mono ?_); rintro e w' ⟨rfl, ⟨nd, rfl⟩⟩; refine ⟨_, rfl, ?_⟩))
 go_ret
 exact ⟨by first | rfl | (simp; done) | (simp [*]; done), by repeat (first | exact Drawn0.refl _ | apply Drawn0.step)⟩
mutual
def xbB.j0 : Nat → Int → Int → Bool → Int → List (S63) → Option (Int × Int)
  | 0, _, _, _, _, _ => none
  | k + 1, x1, x2, x29, x234000, x234001 => if x29 = true then (some (0, 51)) else (if x2 < x1 then ((xbB.f k x234000 x234001 x2 x1).bind fun bt238 => (some (wrap64 (-bt238.1), bt238.2))) else (xbB.l0 k x2 0 x1 x234000 x234001))
def xbB.l0 : Nat → Int → Int → Int → Int → List (S63) → Option (Int × Int)
  | 0, _, _, _, _, _ => none
  | k + 1, x2, x12, x13, x234000, x234001 => if x13 < x2 then ((xdT.f k x234000 x234001 x13).bind fun t240 => (if t240 = true then (xbB.l0 k x2 (wrap64 (x12 + 1)) (wrap64 (x13 + 1)) x234000 x234001) else (xbB.l0 k x2 x12 (wrap64 (x13 + 1)) x234000 x234001))) else (some (x12, 0))
def xbB.f : Nat → Int → List (S63) → Int → Int → Option (Int × Int)
  | 0, _, _, _, _ => none
  | k + 1, a0_0, l0_1, a1, a2 => (xbP.f k a0_0 l0_1).bind fun bt234 => (if bt234.1 = 0 then ((xcP.f a1).bind fun t236 => (if t236 = true then ((xcP.f a2).bind fun t237 => (xbB.j0 k a1 a2 (!t237) a0_0 l0_1)) else (xbB.j0 k a1 a2 true a0_0 l0_1))) else (some (0, bt234.1)))
end
set_option maxHeartbeats 8000000 in
set_option maxRecDepth 100000 in
theorem xbB.calls (k : Nat) : ∀ (a0_0 : Int) (A0_1 : Option Addr) (c0_1 : Nat) (l0_1 : List (S63)) (a1 : Int) (a2 : Int) (r1 : Int) (r2 : Int) (w : World) (hr0_1 : Kd.C k63 w A0_1 l0_1.length l0_1) (hc0_1 : l0_1.length ≤ c0_1) (h : xbB.f k a0_0 l0_1 a1 a2 = some (r1, r2)),
  Calls Try.prog 43 #[.agg #[.int .i64 a0_0, .slice A0_1 l0_1.length c0_1], .int .i64 a1, .int .i64 a2] w fun e w' => e = .returned (.tuple #[.int .i64 r1, .int .i64 r2]) ∧ Below w.heap.size w w' := by
 induction k using Nat.strongRecOn with
 | _ k ih =>
 intro a0_0 A0_1 c0_1 l0_1 a1 a2 r1 r2 w hr0_1 hc0_1 h
 cases k with
 | zero => exact absurd h (by simp [xbB.f])
 | succ k =>
 simp only [xbB.f] at h
 have hu24 := Try.underlying24;have HR0_1 := Aside0.mk hr0_1;have HC0_1 := Aside0.mk hc0_1;clear hr0_1 hc0_1
 have HB := Aside0.mk (Below.refl w.heap.size w)
 have H : ((xbP.f k a0_0 l0_1).bind fun bt234 => (if bt234.1 = 0 then ((xcP.f a1).bind fun t236 => (if t236 = true then ((xcP.f a2).bind fun t237 => (xbB.j0 k a1 a2 (!t237) a0_0 l0_1)) else (xbB.j0 k a1 a2 true a0_0 l0_1))) else (some (0, bt234.1)))) = some (r1, r2) := h
 clear h;replace H := Option.bind_eq_some_iff.mp H
 obtain ⟨⟨t234, t235⟩, A40, H⟩ := H
 replace H : (if t234 = 0 then ((xcP.f a1).bind fun t236 => (if t236 = true then ((xcP.f a2).bind fun t237 => (xbB.j0 k a1 a2 (!t237) a0_0 l0_1)) else (xbB.j0 k a1 a2 true a0_0 l0_1))) else (some (0, t234))) = some (r1, r2) := H
 have A4 := Aside0.mk A40;clear A40
 by_cases c5 : t234 = 0
 ·
  rw [if_pos c5] at H
  have c5b0 : (t234 == 0) = true := beq_iff_eq.mpr c5
  have c5b1 : (t234 != 0) = false := bne_eq_false_iff_eq.mpr c5
  clear c5;have HC6 := Aside0.mk H;clear H
  go_enter Try.func43, Try.ntmps43
  go_upto_region 4 with (first | ((with_reducible refine xbM (N := 3) rfl ?_); refine xbJ ?hg (N := 3) ?hd (cs := #[.int .i64 a0_0, .slice A0_1 l0_1.length c0_1]) (t := 24) ?hr ?_; (case hd => rfl); (case hg => rfl); (case hr => first | (go_simp; done) | (go_simp; rfl)); intro gb233 hg w7 hbox hb; have n0_ := Aside0.mk (xaP (by repeat (first | (with_reducible first | exact HB.out | apply xaB | apply xaA | apply xaC) | exact HB.out)) hb); have n1_ := Aside0.mk (hbox); have n2_ := Aside0.mk ((by rw [hg]; exact (xaR (by repeat (first | (with_reducible first | exact HB.out | apply xaB | apply xaA | apply xaC) | exact HB.out))) : w.heap.size ≤ gb233)); have n3_ := Aside0.mk ((by rw [hg]; exact (xaR (by repeat (first | (with_reducible first | exact HB.out | apply xaB | apply xaA | apply xaC) | exact HB.out))) : w.heap.size ≤ gb233)); clear HB; have HB := n0_; have BK233 := n1_; have GW233 := n2_; have GE233 := n3_; clear n0_ n1_ n2_ n3_; clear hb hbox hg; have hcz8_0 : w7.cell? ⟨gb233, 0, none⟩ = some (.int .i64 a0_0) := (xaE BK233.out 0).trans rfl; have hcz8_1 : w7.cell? ⟨gb233, 1, none⟩ = some (.slice A0_1 l0_1.length c0_1) := (xaE BK233.out 1).trans rfl; have hfz8_0 := xaD BK233.out 0; have hfz8_1 := xaD BK233.out 1) | ((with_reducible refine xaQ (f := 45) rfl ?_); refine goesL_ (some 16) rfl rfl Try.func45 (by kernel_rfl) rfl #[.agg #[.int .i64 a0_0, .slice A0_1 l0_1.length c0_1]] rfl (by (try simp only [List.map_toArray, List.map_cons, List.map_nil]); first | done | rfl | (simp only [List.length_drop, List.length_take]; rfl)) ?_; (with_reducible refine (xbP.calls k a0_0 _ _ l0_1 t234 t235 _ ?side1 ?side2 A4.out).mono ?_); (case side1 => repeat (first | exact (Kd.xbT HR0_1.out HB.out) | (with_reducible refine Kd.xbF ?_ _) | (with_reducible refine Kd.xbE ?_ _) | (with_reducible refine Kd.C_drew ?_))); (case side2 => exact HC0_1.out); rintro e w9 ⟨rfl, hb⟩; refine ⟨_, rfl, ?_⟩; have n0_ := Aside0.mk (xaY (g := gb233) (o := .cells #[.int .i64 a0_0, .slice A0_1 l0_1.length c0_1] 24 (0, 0)) (by (with_reducible repeat (first | refine xaG ?_ _ | refine xaJ ?_ | refine xaH ?_ _)); exact BK233.out) hb); have n1_ := Aside0.mk (xaP (by repeat (first | (with_reducible first | exact HB.out | apply xaB | apply xaA | apply xaC | refine xaF ?_ GE233.out) | exact HB.out)) hb); clear BK233; clear HB; have BK233 := n0_; have HB := n1_; clear n0_ n1_; (try clear hb); (try clear hb2); (try clear hk); (try clear hi)))
  (try simp only [Act.put, List.setIfInBounds_toArray, List.set_cons_zero, List.set_cons_succ])
  go_cut [29] (fun v29 wc => ∃ (kq : Nat) (x29_5 : Bool), v29 = .bool x29_5 ∧ Aside0 (xbB.j0 kq a1 a2 x29_5 a0_0 l0_1 = some (r1, r2)) ∧ Aside0 (kq ≤ k) ∧ Aside0 (wc.heap[gb233]? = some (.cells #[.int .i64 a0_0, (.slice A0_1 l0_1.length c0_1)] 24 (0, 0))) ∧ Aside0 (Below w.heap.size w wc))
  case first =>
   have H := HC6.out;clear HC6;replace H := Option.bind_eq_some_iff.mp H
   obtain ⟨t236, A100, H⟩ := H
   replace H : (if t236 = true then ((xcP.f a2).bind fun t237 => (xbB.j0 k a1 a2 (!t237) a0_0 l0_1)) else (xbB.j0 k a1 a2 true a0_0 l0_1)) = some (r1, r2) := H
   have A10 := Aside0.mk A100;clear A100
   by_cases c11 : t236 = true
   ·
    subst c11
    have H1 : ((xcP.f a2).bind fun t237 => (xbB.j0 k a1 a2 (!t237) a0_0 l0_1)) = some (r1, r2) := by rw [if_pos rfl] at H; exact H
    clear H;have H := H1;clear H1;replace H := Option.bind_eq_some_iff.mp H
    obtain ⟨t237, A120, H⟩ := H
    replace H : (xbB.j0 k a1 a2 (!t237) a0_0 l0_1) = some (r1, r2) := H
    have A12 := Aside0.mk A120;clear A120;have H' := Aside0.mk H;clear H
    go_wp2_with (first | ((with_reducible refine xaQ (f := 80) rfl ?_); refine goesL_ (some 23) rfl rfl Try.func80 (by kernel_rfl) rfl #[.int .i64 a1] rfl (by (try simp only [List.map_toArray, List.map_cons, List.map_nil]); first | done | rfl | (simp only [List.length_drop, List.length_take]; rfl)) ?_; (with_reducible refine (xcP.calls a1 true _ A10.out).mono ?_); rintro e w' ⟨rfl, ⟨nd, rfl⟩⟩; refine ⟨_, rfl, ?_⟩) | (go_at_call 80; (with_reducible refine (xcP.calls a2 t237 _ A12.out).mono ?_); rintro e w' ⟨rfl, ⟨nd, rfl⟩⟩))
    go_meet
    case rel => exact ⟨_, (!t237), (by first | rfl | (simp; done) | (simp [*]; done)), H', ⟨by first | omega | exact Nat.le_refl _⟩, ⟨by (with_reducible repeat (first | refine xaG ?_ _ | refine xaJ ?_ | refine xaH ?_ _)); exact BK233.out⟩, ⟨by repeat (first | (with_reducible first | exact HB.out | apply xaB | apply xaA | apply xaC | refine xaF ?_ GE233.out) | exact HB.out)⟩⟩
   ·
    replace c11 := Bool.eq_false_iff.mpr c11;subst c11
    have H1 : (xbB.j0 k a1 a2 true a0_0 l0_1) = some (r1, r2) := by rw [if_neg (show ¬ (false = true) by decide)] at H; exact H
    clear H;have H := H1;clear H1;have H' := Aside0.mk H;clear H
    go_wp2_with (first | ((with_reducible refine xaQ (f := 80) rfl ?_); refine goesL_ (some 23) rfl rfl Try.func80 (by kernel_rfl) rfl #[.int .i64 a1] rfl (by (try simp only [List.map_toArray, List.map_cons, List.map_nil]); first | done | rfl | (simp only [List.length_drop, List.length_take]; rfl)) ?_; (with_reducible refine (xcP.calls a1 false _ A10.out).mono ?_); rintro e w' ⟨rfl, ⟨nd, rfl⟩⟩; refine ⟨_, rfl, ?_⟩))
    go_meet
    case rel => exact ⟨_, (true), (by first | rfl | (simp; done) | (simp [*]; done)), H', ⟨by first | omega | exact Nat.le_refl _⟩, ⟨by (with_reducible repeat (first | refine xaG ?_ _ | refine xaJ ?_ | refine xaH ?_ _)); exact BK233.out⟩, ⟨by repeat (first | (with_reducible first | exact HB.out | apply xaB | apply xaA | apply xaC | refine xaF ?_ GE233.out) | exact HB.out)⟩⟩
  case rest =>
   clear HC6
   obtain ⟨kq, x29_5, rfl, HA, HJ5, BK233, HB⟩ := hcut
   cases kq with
   | zero => exact absurd HA.out (by simp [xbB.j0])
   | succ kj5 =>
    have H := HA.out;clear HA
    simp only [xbB.j0] at H
    by_cases c13 : x29_5 = true
    ·
     subst c13
     have H1 : (some (0, 51)) = some (r1, r2) := by rw [if_pos rfl] at H; exact H
     clear H;have H := H1;clear H1
     simp only [Option.some.injEq, Prod.mk.injEq] at H
     obtain ⟨rfl, rfl⟩ := H
     go_wp2
     go_ret2
     exact ⟨by first | rfl | (simp [xaL, xaK] <;> rfl) | (simp [*, xaL, xaK] <;> rfl), by repeat (first | (with_reducible first | exact HB.out | apply xaB | apply xaA | apply xaC | refine xaF ?_ GE233.out) | exact HB.out)⟩
    ·
     replace c13 := Bool.eq_false_iff.mpr c13;subst c13
     have H1 : (if a2 < a1 then ((xbB.f kj5 a0_0 l0_1 a2 a1).bind fun bt238 => (some (wrap64 (-bt238.1), bt238.2))) else (xbB.l0 kj5 a2 0 a1 a0_0 l0_1)) = some (r1, r2) := by rw [if_neg (show ¬ (false = true) by decide)] at H; exact H
     clear H;have H := H1;clear H1
     by_cases c14 : a2 < a1
     ·
      rw [if_pos c14] at H
      have c14b0 : decide (a2 < a1) = true := decide_eq_true c14
      clear c14;replace H := Option.bind_eq_some_iff.mp H
      obtain ⟨⟨t238, t239⟩, A150, H⟩ := H
      replace H : (some (wrap64 (-t238), t239)) = some (r1, r2) := H
      have A15 := Aside0.mk A150;clear A150
      simp only [Option.some.injEq, Prod.mk.injEq] at H
      obtain ⟨rfl, rfl⟩ := H
      have hcz16_0 : wc.cell? ⟨gb233, 0, none⟩ = some (.int .i64 a0_0) := (xaE BK233.out 0).trans rfl
      have hcz16_1 : wc.cell? ⟨gb233, 1, none⟩ = some (.slice A0_1 l0_1.length c0_1) := (xaE BK233.out 1).trans rfl
      have hfz16_0 := xaD BK233.out 0;have hfz16_1 := xaD BK233.out 1
      go_wp2_with (first | ((with_reducible refine xaQ (f := 43) rfl ?_); refine goesL_ (some 37) rfl rfl Try.func43 (by kernel_rfl) rfl #[.agg #[.int .i64 a0_0, .slice A0_1 l0_1.length c0_1], .int .i64 a2, .int .i64 a1] rfl (by (try simp only [List.map_toArray, List.map_cons, List.map_nil]); first | done | rfl | (simp only [List.length_drop, List.length_take]; rfl)) ?_; (with_reducible refine (ih kj5 (by have := HJ5.out; omega) a0_0 _ _ l0_1 a2 a1 t238 t239 _ ?side1 ?side2 A15.out).mono ?_); (case side1 => repeat (first | exact (Kd.xbT HR0_1.out HB.out) | (with_reducible refine Kd.xbF ?_ _) | (with_reducible refine Kd.xbE ?_ _) | (with_reducible refine Kd.C_drew ?_))); (case side2 => exact HC0_1.out); rintro e w17 ⟨rfl, hb⟩; refine ⟨_, rfl, ?_⟩; have n0_ := Aside0.mk (xaY (g := gb233) (o := .cells #[.int .i64 a0_0, .slice A0_1 l0_1.length c0_1] 24 (0, 0)) (by (with_reducible repeat (first | refine xaG ?_ _ | refine xaJ ?_ | refine xaH ?_ _)); exact BK233.out) hb); have n1_ := Aside0.mk (xaP (by repeat (first | (with_reducible first | exact HB.out | apply xaB | apply xaA | apply xaC | refine xaF ?_ GE233.out) | exact HB.out)) hb); clear BK233; clear HB; have BK233 := n0_; have HB := n1_; clear n0_ n1_; (try clear hb); (try clear hb2); (try clear hk); (try clear hi)))
      go_ret2
      exact ⟨by first | rfl | (simp [xaL, xaK] <;> rfl) | (simp [*, xaL, xaK] <;> rfl), by repeat (first | (with_reducible first | exact HB.out | apply xaB | apply xaA | apply xaC | refine xaF ?_ GE233.out) | exact HB.out)⟩
     ·
      rw [if_neg c14] at H
      have c14b0 : decide (a2 < a1) = false := decide_eq_false c14
      clear c14;have H' := Aside0.mk H;clear H
      go_wp2
      go_loopg [12, 13] kj5 (fun kq v12 v13 w' => ∃ (x12_2 : Int) (x13_2 : Int), v12 = .int .i64 x12_2 ∧ v13 = .int .i64 x13_2 ∧ Aside0 (xbB.l0 kq a2 x12_2 x13_2 a0_0 l0_1 = some (r1, r2)) ∧ Aside0 (kq ≤ kj5) ∧ Aside0 (w'.heap[gb233]? = some (.cells #[.int .i64 a0_0, (.slice A0_1 l0_1.length c0_1)] 24 (0, 0))) ∧ Aside0 (Below w.heap.size w w'))
      case atStart => exact ⟨(0), (a1), (by first | rfl | (simp; done) | (simp [*]; done)), (by first | rfl | (simp; done) | (simp [*]; done)), H', ⟨Nat.le_refl _⟩, ⟨by (with_reducible repeat (first | refine xaG ?_ _ | refine xaJ ?_ | refine xaH ?_ _)); exact BK233.out⟩, ⟨by repeat (first | (with_reducible first | exact HB.out | apply xaB | apply xaA | apply xaC | refine xaF ?_ GE233.out) | exact HB.out)⟩⟩
      case round =>
       clear H'
       obtain ⟨x12_2, x13_2, rfl, rfl, HA, HK2, BK233, HB⟩ := hrel
       cases gk with
       | zero => exact absurd HA.out (by simp [xbB.l0])
       | succ k2 =>
        have H := HA.out;clear HA
        simp only [xbB.l0] at H
        by_cases c18 : x13_2 < a2
        ·
         rw [if_pos c18] at H
         have c18b0 : decide (x13_2 < a2) = true := decide_eq_true c18
         clear c18;replace H := Option.bind_eq_some_iff.mp H
         obtain ⟨t240, A190, H⟩ := H
         replace H : (if t240 = true then (xbB.l0 k2 a2 (wrap64 (x12_2 + 1)) (wrap64 (x13_2 + 1)) a0_0 l0_1) else (xbB.l0 k2 a2 x12_2 (wrap64 (x13_2 + 1)) a0_0 l0_1)) = some (r1, r2) := H
         have A19 := Aside0.mk A190;clear A190
         by_cases c20 : t240 = true
         ·
          subst c20
          have H1 : (xbB.l0 k2 a2 (wrap64 (x12_2 + 1)) (wrap64 (x13_2 + 1)) a0_0 l0_1) = some (r1, r2) := by rw [if_pos rfl] at H; exact H
          clear H;have H := H1;clear H1;have H' := Aside0.mk H;clear H
          have hcz21_0 : wr.cell? ⟨gb233, 0, none⟩ = some (.int .i64 a0_0) := (xaE BK233.out 0).trans rfl
          have hcz21_1 : wr.cell? ⟨gb233, 1, none⟩ = some (.slice A0_1 l0_1.length c0_1) := (xaE BK233.out 1).trans rfl
          have hfz21_0 := xaD BK233.out 0;have hfz21_1 := xaD BK233.out 1
          go_wp2_with (first | ((with_reducible refine xaQ (f := 74) rfl ?_); refine goesL_ (some 51) rfl rfl Try.func74 (by kernel_rfl) rfl #[.agg #[.int .i64 a0_0, .slice A0_1 l0_1.length c0_1], .int .i64 x13_2] rfl (by (try simp only [List.map_toArray, List.map_cons, List.map_nil]); first | done | rfl | (simp only [List.length_drop, List.length_take]; rfl)) ?_; (with_reducible refine (xdT.calls k2 a0_0 _ _ l0_1 x13_2 true _ ?side1 ?side2 A19.out).mono ?_); (case side1 => repeat (first | exact (Kd.xbT HR0_1.out HB.out) | (with_reducible refine Kd.xbF ?_ _) | (with_reducible refine Kd.xbE ?_ _) | (with_reducible refine Kd.C_drew ?_))); (case side2 => exact HC0_1.out); rintro e w22 ⟨rfl, hb⟩; refine ⟨_, rfl, ?_⟩; have n0_ := Aside0.mk (xaY (g := gb233) (o := .cells #[.int .i64 a0_0, .slice A0_1 l0_1.length c0_1] 24 (0, 0)) (by (with_reducible repeat (first | refine xaG ?_ _ | refine xaJ ?_ | refine xaH ?_ _)); exact BK233.out) hb); have n1_ := Aside0.mk (xaP (by repeat (first | (with_reducible first | exact HB.out | apply xaB | apply xaA | apply xaC | refine xaF ?_ GE233.out) | exact HB.out)) hb); clear BK233; clear HB; have BK233 := n0_; have HB := n1_; clear n0_ n1_; (try clear hb); (try clear hb2); (try clear hk); (try clear hi)))
          go_roundg k2
          case measure => have := HJ5.out; have := HK2.out; omega
          case rel => exact ⟨(wrap64 (x12_2 + 1)), (wrap64 (x13_2 + 1)), (by first | rfl | (simp; done) | (simp [*]; done)), (by first | rfl | (simp; done) | (simp [*]; done)), H', ⟨by have := HJ5.out; have := HK2.out; omega⟩, ⟨by (with_reducible repeat (first | refine xaG ?_ _ | refine xaJ ?_ | refine xaH ?_ _)); exact BK233.out⟩, ⟨by repeat (first | (with_reducible first | exact HB.out | apply xaB | apply xaA | apply xaC | refine xaF ?_ GE233.out) | exact HB.out)⟩⟩
         ·
          replace c20 := Bool.eq_false_iff.mpr c20;subst c20
          have H1 : (xbB.l0 k2 a2 x12_2 (wrap64 (x13_2 + 1)) a0_0 l0_1) = some (r1, r2) := by rw [if_neg (show ¬ (false = true) by decide)] at H; exact H
          clear H;have H := H1;clear H1;have H' := Aside0.mk H;clear H
          have hcz23_0 : wr.cell? ⟨gb233, 0, none⟩ = some (.int .i64 a0_0) := (xaE BK233.out 0).trans rfl
          have hcz23_1 : wr.cell? ⟨gb233, 1, none⟩ = some (.slice A0_1 l0_1.length c0_1) := (xaE BK233.out 1).trans rfl
          have hfz23_0 := xaD BK233.out 0;have hfz23_1 := xaD BK233.out 1
          go_wp2_with (first | ((with_reducible refine xaQ (f := 74) rfl ?_); refine goesL_ (some 51) rfl rfl Try.func74 (by kernel_rfl) rfl #[.agg #[.int .i64 a0_0, .slice A0_1 l0_1.length c0_1], .int .i64 x13_2] rfl (by (try simp only [List.map_toArray, List.map_cons, List.map_nil]); first | done | rfl | (simp only [List.length_drop, List.length_take]; rfl)) ?_; (with_reducible refine (xdT.calls k2 a0_0 _ _ l0_1 x13_2 false _ ?side1 ?side2 A19.out).mono ?_); (case side1 => repeat (first | exact (Kd.xbT HR0_1.out HB.out) | (with_reducible refine Kd.xbF ?_ _) | (with_reducible refine Kd.xbE ?_ _) | (with_reducible refine Kd.C_drew ?_))); (case side2 => exact HC0_1.out); rintro e w24 ⟨rfl, hb⟩; refine ⟨_, rfl, ?_⟩; have n0_ := Aside0.mk (xaY (g := gb233) (o := .cells #[.int .i64 a0_0, .slice A0_1 l0_1.length c0_1] 24 (0, 0)) (by (with_reducible repeat (first | refine xaG ?_ _ | refine xaJ ?_ | refine xaH ?_ _)); exact BK233.out) hb); have n1_ := Aside0.mk (xaP (by repeat (first | (with_reducible first | exact HB.out | apply xaB | apply xaA | apply xaC | refine xaF ?_ GE233.out) | exact HB.out)) hb); clear BK233; clear HB; have BK233 := n0_; have HB := n1_; clear n0_ n1_; (try clear hb); (try clear hb2); (try clear hk); (try clear hi)))
          go_roundg k2
          case measure => have := HJ5.out; have := HK2.out; omega
          case rel => exact ⟨(x12_2), (wrap64 (x13_2 + 1)), (by first | rfl | (simp; done) | (simp [*]; done)), (by first | rfl | (simp; done) | (simp [*]; done)), H', ⟨by have := HJ5.out; have := HK2.out; omega⟩, ⟨by (with_reducible repeat (first | refine xaG ?_ _ | refine xaJ ?_ | refine xaH ?_ _)); exact BK233.out⟩, ⟨by repeat (first | (with_reducible first | exact HB.out | apply xaB | apply xaA | apply xaC | refine xaF ?_ GE233.out) | exact HB.out)⟩⟩
        ·
         rw [if_neg c18] at H
         have c18b0 : decide (x13_2 < a2) = false := decide_eq_false c18
         clear c18
         simp only [Option.some.injEq, Prod.mk.injEq] at H
         obtain ⟨rfl, rfl⟩ := H
         go_wp2
         go_ret2
         exact ⟨by first | rfl | (simp [xaL, xaK] <;> rfl) | (simp [*, xaL, xaK] <;> rfl), by repeat (first | (with_reducible first | exact HB.out | apply xaB | apply xaA | apply xaC | refine xaF ?_ GE233.out) | exact HB.out)⟩
 ·
  rw [if_neg c5] at H
  have c5b0 : (t234 == 0) = false := beq_eq_false_iff_ne.mpr c5
  have c5b1 : (t234 != 0) = true := bne_iff_ne.mpr c5
  simp only [Option.some.injEq, Prod.mk.injEq] at H
  obtain ⟨rfl, rfl⟩ := H
  go_enter Try.func43, Try.ntmps43
  go_wp2_with (first | ((with_reducible refine xbM (N := 3) rfl ?_); refine xbJ ?hg (N := 3) ?hd (cs := #[.int .i64 a0_0, .slice A0_1 l0_1.length c0_1]) (t := 24) ?hr ?_; (case hd => rfl); (case hg => rfl); (case hr => first | (go_simp; done) | (go_simp; rfl)); intro gb233 hg w25 hbox hb; have n0_ := Aside0.mk (xaP (by repeat (first | (with_reducible first | exact HB.out | apply xaB | apply xaA | apply xaC) | exact HB.out)) hb); have n1_ := Aside0.mk (hbox); have n2_ := Aside0.mk ((by rw [hg]; exact (xaR (by repeat (first | (with_reducible first | exact HB.out | apply xaB | apply xaA | apply xaC) | exact HB.out))) : w.heap.size ≤ gb233)); have n3_ := Aside0.mk ((by rw [hg]; exact (xaR (by repeat (first | (with_reducible first | exact HB.out | apply xaB | apply xaA | apply xaC) | exact HB.out))) : w.heap.size ≤ gb233)); clear HB; have HB := n0_; have BK233 := n1_; have GW233 := n2_; have GE233 := n3_; clear n0_ n1_ n2_ n3_; clear hb hbox hg; have hcz26_0 : w25.cell? ⟨gb233, 0, none⟩ = some (.int .i64 a0_0) := (xaE BK233.out 0).trans rfl; have hcz26_1 : w25.cell? ⟨gb233, 1, none⟩ = some (.slice A0_1 l0_1.length c0_1) := (xaE BK233.out 1).trans rfl; have hfz26_0 := xaD BK233.out 0; have hfz26_1 := xaD BK233.out 1) | ((with_reducible refine xaQ (f := 45) rfl ?_); refine goesL_ (some 16) rfl rfl Try.func45 (by kernel_rfl) rfl #[.agg #[.int .i64 a0_0, .slice A0_1 l0_1.length c0_1]] rfl (by (try simp only [List.map_toArray, List.map_cons, List.map_nil]); first | done | rfl | (simp only [List.length_drop, List.length_take]; rfl)) ?_; (with_reducible refine (xbP.calls k a0_0 _ _ l0_1 t234 t235 _ ?side1 ?side2 A4.out).mono ?_); (case side1 => repeat (first | exact (Kd.xbT HR0_1.out HB.out) | (with_reducible refine Kd.xbF ?_ _) | (with_reducible refine Kd.xbE ?_ _) | (with_reducible refine Kd.C_drew ?_))); (case side2 => exact HC0_1.out); rintro e w27 ⟨rfl, hb⟩; refine ⟨_, rfl, ?_⟩; have n0_ := Aside0.mk (xaY (g := gb233) (o := .cells #[.int .i64 a0_0, .slice A0_1 l0_1.length c0_1] 24 (0, 0)) (by (with_reducible repeat (first | refine xaG ?_ _ | refine xaJ ?_ | refine xaH ?_ _)); exact BK233.out) hb); have n1_ := Aside0.mk (xaP (by repeat (first | (with_reducible first | exact HB.out | apply xaB | apply xaA | apply xaC | refine xaF ?_ GE233.out) | exact HB.out)) hb); clear BK233; clear HB; have BK233 := n0_; have HB := n1_; clear n0_ n1_; (try clear hb); (try clear hb2); (try clear hk); (try clear hi)))
  go_ret2
  exact ⟨by first | rfl | (simp [xaL, xaK] <;> rfl) | (simp [*, xaL, xaK] <;> rfl), by repeat (first | (with_reducible first | exact HB.out | apply xaB | apply xaA | apply xaC | refine xaF ?_ GE233.out) | exact HB.out)⟩
end Go.Proofs.Ytoncignjcgjhhaa.Q
namespace Go.Proofs.Ytoncignjcgjhhaa.Q
open Go.RowKit Go.Proofs.YtoncignjcgjhhaaW.PrintWords Go.Proofs.YtoncignjcgjhhaaW.PrintLast Go.Proofs.YtoncignjcgjhhaaW.PrintMore
attribute [local go_sem] xcC xcB xcR xcQ xbX xbW xcF xcE   -- for this text's walks alone
end Go.Proofs.Ytoncignjcgjhhaa.Q
namespace Go.Proofs.Ytoncignjcgjhhaa.Q
open Go.RowKit Go.Proofs.YtoncignjcgjhhaaW.PrintWords Go.Proofs.YtoncignjcgjhhaaW.PrintLast Go.Proofs.YtoncignjcgjhhaaW.PrintMore
attribute [local go_sem] xcC xcB xcR xcQ xbX xbW xcF xcE   -- for this text's walks alone
end Go.Proofs.Ytoncignjcgjhhaa.Q
namespace Go.Proofs.Ytoncignjcgjhhaa.Q
open Go.RowKit Go.Proofs.YtoncignjcgjhhaaW.PrintWords Go.Proofs.YtoncignjcgjhhaaW.PrintLast Go.Proofs.YtoncignjcgjhhaaW.PrintMore
attribute [local go_sem] xcC xcB xcR xcQ xbX xbW xcF xcE   -- for this text's walks alone
end Go.Proofs.Ytoncignjcgjhhaa.Q
namespace Go.Proofs.Ytoncignjcgjhhaa.Q
open Go.RowKit Go.Proofs.YtoncignjcgjhhaaW.PrintWords Go.Proofs.YtoncignjcgjhhaaW.PrintLast Go.Proofs.YtoncignjcgjhhaaW.PrintMore
attribute [local go_sem] xcC xcB xcR xcQ xbX xbW xcF xcE   -- for this text's walks alone
end Go.Proofs.Ytoncignjcgjhhaa.Q
namespace Go.Proofs.Ytoncignjcgjhhaa.Q
open Go.RowKit Go.Proofs.YtoncignjcgjhhaaW.PrintWords Go.Proofs.YtoncignjcgjhhaaW.PrintLast Go.Proofs.YtoncignjcgjhhaaW.PrintMore
attribute [local go_sem] xcC xcB xcR xcQ xbX xbW xcF xcE   -- for this text's walks alone
end Go.Proofs.Ytoncignjcgjhhaa.Q
namespace Go.Proofs.Ytoncignjcgjhhaa.Q
open Go.RowKit Go.Proofs.YtoncignjcgjhhaaW.PrintWords Go.Proofs.YtoncignjcgjhhaaW.PrintLast Go.Proofs.YtoncignjcgjhhaaW.PrintMore
attribute [local go_sem] xcC xcB xcR xcQ xbX xbW xcF xcE   -- for this text's walks alone
end Go.Proofs.Ytoncignjcgjhhaa.Q
namespace Go.Proofs.Ytoncignjcgjhhaa.R
open Go.RowKit Go.Proofs.YtoncignjcgjhhaaW.PrintWords Go.Proofs.YtoncignjcgjhhaaW.PrintLast Go.Proofs.YtoncignjcgjhhaaW.PrintMore
open Go.Proofs.Ytoncignjcgjhhaa.Q
open Go.Proofs.Ytoncignjcgjhhaa.L (w64 td tm tm0)
theorem isDay (n : Int) : xcP.f n = some (decide (M.isDay n)) := by
  unfold xcP.f; rw [in_]; rfl
theorem open_ {we : Int} {l : List S63} (h : (M.chk we (l.map H.ru)).1 = 0) (n : Int) (hn : M.isDay n) : Ev (fun k => xdT.f k we l n) (M.isOpen we (l.map H.ru) n) := by
 obtain ⟨h0, h1, h2, h3⟩ := mays h
 unfold M.isOpen
 cases ho : M.off we n with
 | true => exact Ev.congr (fun k => by unfold xdT.f; rw [off we n l h0 h1, ho]; rfl) (Ev.now _)
 | false =>
  refine Ev.congr (fun k => ?_) (Ev.bind (f := fun _ t => some (!t)) (holiday we l n h0 h1 h3 h2 hn) (Ev.now _))
  unfold xdT.f
  rw [off we n l h0 h1, ho]; rfl
end Go.Proofs.Ytoncignjcgjhhaa.R
namespace Go.Proofs.Ytoncignjcgjhhaa.R
open Go.RowKit Go.Proofs.YtoncignjcgjhhaaW.PrintWords Go.Proofs.YtoncignjcgjhhaaW.PrintLast Go.Proofs.YtoncignjcgjhhaaW.PrintMore
open Go.Proofs.Ytoncignjcgjhhaa.Q
open Go.Proofs.Ytoncignjcgjhhaa.L (w64 td tm tm0)
theorem Count_l0 {we : Int} {l : List S63} (h : (M.chk we (l.map H.ru)).1 = 0) (z : Int) (hz : z ≤ 109572) : ∀ (f : Nat) (i s : Int), 0 ≤ i → i ≤ z → z - i = f → 0 ≤ s → s ≤ i →
  Ev (fun k => xbB.l0 k z s i we l) (s + M.cntF we (l.map H.ru) f i, 0)
 | 0, i, s, a, b, c, d, e => by
  have c1 : ¬ i < z := by omega
  exact Ev.step (f := fun _ => some (s + M.cntF we (l.map H.ru) 0 i, (0 : Int))) (fun k => by rw [xbB.l0, if_neg c1]; simp [M.cntF]) (Ev.now _)
 | f + 1, i, s, a, b, c, d, e => by
  have c1 : i < z := by omega
  have hw : wrap64 (i + 1) = i + 1 := w64 (by omega) (by omega)
  have hw2 : wrap64 (s + 1) = s + 1 := w64 (by omega) (by omega)
  refine Ev.step (fun k => by rw [xbB.l0, if_pos c1, hw, hw2]) (Ev.bind (open_ h i ⟨by omega, by omega⟩) ?_)
  unfold M.cntF
  by_cases ho : M.isOpen we (l.map H.ru) i = true
  ·
   rw [if_pos ho, ← Int.add_assoc]
   exact Ev.congr (fun k => if_pos ho) (Count_l0 h z hz f (i + 1) (s + 1) (by omega) (by omega) (by omega) (by omega) (by omega))
  ·
   rw [if_neg ho, Int.zero_add]
   exact Ev.congr (fun k => if_neg ho) (Count_l0 h z hz f (i + 1) s (by omega) (by omega) (by omega) (by omega) (by omega))
theorem cntF_rng (we : Int) (l : List M.Rul) : ∀ (f : Nat) (i : Int), 0 ≤ M.cntF we l f i ∧ M.cntF we l f i ≤ f
 | 0, i => by simp [M.cntF]
 | f + 1, i => by
  have := cntF_rng we l f (i + 1)
  unfold M.cntF
  split <;> (push_cast; omega)
theorem Count_up {we : Int} {l : List S63} (h : (M.chk we (l.map H.ru)).1 = 0) (a z : Int) (ha : M.isDay a) (hz : M.isDay z) (hle : ¬ z < a) : Ev (fun k => xbB.f k we l a z) (M.cntF we (l.map H.ru) (z - a).toNat a, 0) := by
 have a0 := ha.1; have a1 := ha.2; have z0 := hz.1; have z1 := hz.2
 refine Ev.step (fun k => by rw [xbB.f]) (Ev.bind (Check we l) ?_)
 refine Ev.congr (fun k => by rw [if_pos h, isDay, isDay, decide_eq_true ha, decide_eq_true hz]; rfl) (Ev.step (g := fun k => xbB.j0 k a z false we l) (fun k => by rw [xbB.j0, if_neg (by decide), if_neg hle]) ?_)
 have := Count_l0 h z z1 (z - a).toNat a 0 a0 (by omega) (by omega) (by omega) (by omega)
 rw [Int.zero_add] at this
 exact this
theorem Count (we : Int) (l : List S63) (a z : Int) : Ev (fun k => xbB.f k we l a z) (M.Count we (l.map H.ru) a z) := by
 unfold M.Count
 by_cases hc : (M.chk we (l.map H.ru)).1 = 0
 ·
  rw [if_pos hc]
  by_cases hd : M.isDay a ∧ M.isDay z
  ·
   rw [if_pos hd]
   obtain ⟨ha, hz⟩ := hd
   have a0 := ha.1; have a1 := ha.2; have z0 := hz.1; have z1 := hz.2
   by_cases hlt : z < a
   ·
    rw [if_pos hlt]
    refine Ev.step (fun k => by rw [xbB.f]) (Ev.bind (Check we l) ?_)
    refine Ev.congr (fun k => by rw [if_pos hc, isDay, isDay, decide_eq_true ha, decide_eq_true hz]; rfl) (Ev.step (g := fun k => xbB.j0 k a z false we l) (fun k => by rw [xbB.j0, if_neg (by decide), if_pos hlt]) ?_)
    have hr := cntF_rng we (l.map H.ru) (a - z).toNat z
    refine Ev.bind (Count_up hc z a hz ha (by omega)) (Ev.congr (f := fun _ => some (-(M.cntF we (l.map H.ru) (a - z).toNat z), (0 : Int))) (fun k => ?_) (Ev.now _))
    simp only
    rw [w64 (by omega) (by omega)]
   ·
    rw [if_neg hlt]; exact Count_up hc a z ha hz hlt
  ·
   rw [if_neg hd]
   refine Ev.step (fun k => by rw [xbB.f]) (Ev.bind (Check we l) ?_)
   have hj : ∀ b, b = true → Ev (fun k => xbB.j0 k a z b we l) ((0 : Int), (51 : Int)) := fun b hb => Ev.step (f := fun _ => some ((0 : Int), (51 : Int))) (fun k => by rw [xbB.j0, if_pos hb]) (Ev.now _)
   by_cases ha : M.isDay a
   ·
    have hz : ¬ M.isDay z := fun e => hd ⟨ha, e⟩
    exact Ev.congr (fun k => by rw [if_pos hc, isDay, isDay, decide_eq_true ha, decide_eq_false hz]; rfl) (hj true rfl)
   ·
    exact Ev.congr (fun k => by rw [if_pos hc, isDay, decide_eq_false ha]; rfl) (hj true rfl)
 ·
  rw [if_neg hc]
  exact Ev.step (fun k => by rw [xbB.f]) (Ev.bind (Check we l) (Ev.congr (fun k => by rw [if_neg hc]) (Ev.now _)))
end Go.Proofs.Ytoncignjcgjhhaa.R
namespace Go.Proofs.Ytoncignjcgjhhaa.Q
open Go.RowKit Go.Proofs.YtoncignjcgjhhaaW.PrintWords Go.Proofs.YtoncignjcgjhhaaW.PrintLast Go.Proofs.YtoncignjcgjhhaaW.PrintMore
attribute [local go_sem] xcC xcB xcR xcQ xbX xbW xcF xcE   -- for this text's walks alone
def xfM.f (a0_0 : Int) (l0_1 : List S63)  : Option (Int × Int) := if wfL l0_1 then some (Go.Proofs.Ytoncignjcgjhhaa.M.chk a0_0 (l0_1.map Go.Proofs.Ytoncignjcgjhhaa.H.ru) ) else none
theorem xfM.calls (a0_0 : Int) (A0_1 : Option Addr) (c0_1 : Nat) (l0_1 : List (S63)) (r1 : Int) (r2 : Int) (w : World) (hr0_1 : Kd.C k63 w A0_1 l0_1.length l0_1) (hc0_1 : l0_1.length ≤ c0_1) (h : xfM.f a0_0 l0_1  = some (r1, r2)) :
  Calls Try.prog 44 #[.agg #[.int .i64 a0_0, .slice A0_1 l0_1.length c0_1]] w fun e w' => e = .returned (.tuple #[.int .i64 r1, .int .i64 r2]) ∧ Below w.heap.size w w' := by
 unfold xfM.f at h
 split at h
 ·
  rename_i hc
  have e := Option.some.inj h
  have c := Go.Proofs.Ytoncignjcgjhhaa.H.xgU a0_0 A0_1 c0_1 l0_1  w hr0_1 (wfL_mem hc)
  rw [e] at c
  exact c
 ·
  cases h
end Go.Proofs.Ytoncignjcgjhhaa.Q
namespace Go.Proofs.Ytoncignjcgjhhaa.Q
open Go.RowKit Go.Proofs.YtoncignjcgjhhaaW.PrintWords Go.Proofs.YtoncignjcgjhhaaW.PrintLast Go.Proofs.YtoncignjcgjhhaaW.PrintMore
attribute [local go_sem] xcC xcB xcR xcQ xbX xbW xcF xcE   -- for this text's walks alone
def xfD.f (a0 : Int) : Option (Bool) := if a0 ≥ 0 then (some (decide (a0 ≤ 109572))) else (some false)
set_option maxHeartbeats 8000000 in
set_option maxRecDepth 100000 in
theorem xfD.calls (a0 : Int) (r : Bool) (w : World) (h : xfD.f a0 = some r) :
  Calls Try.prog 61 #[.int .i64 a0] w fun e w' => e = .returned (.bool r) ∧ Drawn0 w w' := by
 have H : (if a0 ≥ 0 then (some (decide (a0 ≤ 109572))) else (some false)) = some r := h
 clear h
 by_cases c2 : a0 ≥ 0
 ·
  rw [if_pos c2] at H
  have c2b0 : decide (0 ≤ a0) = true := decide_eq_true c2
  clear c2
  obtain rfl := Option.some.inj H
  go_enter Try.func61, Try.ntmps61
  go_wp2
  go_ret
  exact ⟨by first | rfl | (simp; done) | (simp [*]; done), by repeat (first | exact Drawn0.refl _ | apply Drawn0.step)⟩
 ·
  rw [if_neg c2] at H
  have c2b0 : decide (0 ≤ a0) = false := decide_eq_false c2
  clear c2
  obtain rfl := Option.some.inj H
  go_enter Try.func61, Try.ntmps61
  go_wp2
  go_ret
  exact ⟨by first | rfl | (simp; done) | (simp [*]; done), by repeat (first | exact Drawn0.refl _ | apply Drawn0.step)⟩
def xcJ.l0 : Nat → Int → Int → Int → Int → Option (Int)
  | 0, _, _, _, _ => none
  | k + 1, x0, x3, x7, x8 => if x8 < x3 then ((xdX.f x8).bind fun t159 => (if t159 = true then (xcJ.l0 k x0 x3 (wrap64 (x7 + 366)) (wrap64 (x8 + 1))) else (xcJ.l0 k x0 x3 x7 (wrap64 (x8 + 1))))) else ((xdX.f x3).bind fun t160 => (if t160 = true then ((xeP.f k x3 1 1).bind fun bt161 => (some (wrap64 (x7 + (wrap64 (x0 - bt161.1)))))) else (some x7)))
def xcJ.f (k : Nat) (a0 : Int) : Option (Int) := (xdA.f k a0).bind fun bt155 => (xcJ.l0 k a0 bt155.1 0 1900)
set_option maxHeartbeats 8000000 in
set_option maxRecDepth 100000 in
theorem xcJ.calls (k : Nat) (a0 : Int) (r : Int) (w : World) (h : xcJ.f k a0 = some r) :
  Calls Try.prog 62 #[.int .i64 a0] w fun e w' => e = .returned (.int .i64 r) ∧ Drawn0 w w' := by
 have H : ((xdA.f k a0).bind fun bt155 => (xcJ.l0 k a0 bt155.1 0 1900)) = some r := h
 clear h;replace H := Option.bind_eq_some_iff.mp H
 obtain ⟨⟨t155, t156, t157, t158⟩, A20, H⟩ := H
 replace H : (xcJ.l0 k a0 t155 0 1900) = some r := H
 have A2 := Aside0.mk A20;clear A20;have H' := Aside0.mk H;clear H
 go_enter Try.func62, Try.ntmps62
 go_wp2_with (first | ((with_reducible refine xaQ (f := 93) rfl ?_); refine goesL_ (some 13) rfl rfl Try.func93 (by kernel_rfl) rfl #[.int .i64 a0] rfl (by (try simp only [List.map_toArray, List.map_cons, List.map_nil]); first | done | rfl | (simp only [List.length_drop, List.length_take]; rfl)) ?_; (with_reducible refine (xdA.calls k a0 t155 t156 t157 t158 _ A2.out).mono ?_); rintro e w' ⟨rfl, ⟨nd, rfl⟩⟩; refine ⟨_, rfl, ?_⟩))
 go_loopg [7, 8] k (fun kq v7 v8 w' => ∃ (x7_1 : Int) (x8_1 : Int), v7 = .int .i64 x7_1 ∧ v8 = .int .i64 x8_1 ∧ Aside0 (xcJ.l0 kq a0 t155 x7_1 x8_1 = some r) ∧ Aside0 (kq ≤ k) ∧ Drawn0 w w')
 case atStart => exact ⟨(0), (1900), (by first | rfl | (simp; done) | (simp [*]; done)), (by first | rfl | (simp; done) | (simp [*]; done)), H', ⟨Nat.le_refl _⟩, by repeat (first | exact Drawn0.refl _ | apply Drawn0.step)⟩
 case round =>
  clear H'
  obtain ⟨x7_1, x8_1, rfl, rfl, HA, HK1, ⟨m1, rfl⟩⟩ := hrel
  cases gk with
  | zero => exact absurd HA.out (by simp [xcJ.l0])
  | succ k1 =>
   have H := HA.out;clear HA
   simp only [xcJ.l0] at H
   by_cases c3 : x8_1 < t155
   ·
    rw [if_pos c3] at H
    have c3b0 : decide (x8_1 < t155) = true := decide_eq_true c3
    clear c3;replace H := Option.bind_eq_some_iff.mp H
    obtain ⟨t159, A40, H⟩ := H
    replace H : (if t159 = true then (xcJ.l0 k1 a0 t155 (wrap64 (x7_1 + 366)) (wrap64 (x8_1 + 1))) else (xcJ.l0 k1 a0 t155 x7_1 (wrap64 (x8_1 + 1)))) = some r := H
    have A4 := Aside0.mk A40;clear A40
    by_cases c5 : t159 = true
    ·
     subst c5
     have H1 : (xcJ.l0 k1 a0 t155 (wrap64 (x7_1 + 366)) (wrap64 (x8_1 + 1))) = some r := by rw [if_pos rfl] at H; exact H
     clear H;have H := H1;clear H1;have H' := Aside0.mk H;clear H
     go_wp2_with (first | ((with_reducible refine xaQ (f := 94) rfl ?_); refine goesL_ (some 24) rfl rfl Try.func94 (by kernel_rfl) rfl #[.int .i64 x8_1] rfl (by (try simp only [List.map_toArray, List.map_cons, List.map_nil]); first | done | rfl | (simp only [List.length_drop, List.length_take]; rfl)) ?_; (with_reducible refine (xdX.calls x8_1 true _ A4.out).mono ?_); rintro e w' ⟨rfl, ⟨nd, rfl⟩⟩; refine ⟨_, rfl, ?_⟩))
     go_roundg k1
     case measure => have := HK1.out; omega
     case rel => exact ⟨(wrap64 (x7_1 + 366)), (wrap64 (x8_1 + 1)), (by first | rfl | (simp; done) | (simp [*]; done)), (by first | rfl | (simp; done) | (simp [*]; done)), H', ⟨by have := HK1.out; omega⟩, by repeat (first | exact Drawn0.refl _ | apply Drawn0.step)⟩
    ·
     replace c5 := Bool.eq_false_iff.mpr c5;subst c5
     have H1 : (xcJ.l0 k1 a0 t155 x7_1 (wrap64 (x8_1 + 1))) = some r := by rw [if_neg (show ¬ (false = true) by decide)] at H; exact H
     clear H;have H := H1;clear H1;have H' := Aside0.mk H;clear H
     go_wp2_with (first | ((with_reducible refine xaQ (f := 94) rfl ?_); refine goesL_ (some 24) rfl rfl Try.func94 (by kernel_rfl) rfl #[.int .i64 x8_1] rfl (by (try simp only [List.map_toArray, List.map_cons, List.map_nil]); first | done | rfl | (simp only [List.length_drop, List.length_take]; rfl)) ?_; (with_reducible refine (xdX.calls x8_1 false _ A4.out).mono ?_); rintro e w' ⟨rfl, ⟨nd, rfl⟩⟩; refine ⟨_, rfl, ?_⟩))
     go_roundg k1
     case measure => have := HK1.out; omega
     case rel => exact ⟨(x7_1), (wrap64 (x8_1 + 1)), (by first | rfl | (simp; done) | (simp [*]; done)), (by first | rfl | (simp; done) | (simp [*]; done)), H', ⟨by have := HK1.out; omega⟩, by repeat (first | exact Drawn0.refl _ | apply Drawn0.step)⟩
   ·
    rw [if_neg c3] at H
    have c3b0 : decide (x8_1 < t155) = false := decide_eq_false c3
    clear c3;replace H := Option.bind_eq_some_iff.mp H
    obtain ⟨t160, A60, H⟩ := H
    replace H : (if t160 = true then ((xeP.f k1 t155 1 1).bind fun bt161 => (some (wrap64 (x7_1 + (wrap64 (a0 - bt161.1)))))) else (some x7_1)) = some r := H
    have A6 := Aside0.mk A60;clear A60
    by_cases c7 : t160 = true
    ·
     subst c7
     have H1 : ((xeP.f k1 t155 1 1).bind fun bt161 => (some (wrap64 (x7_1 + (wrap64 (a0 - bt161.1)))))) = some r := by rw [if_pos rfl] at H; exact H
     clear H;have H := H1;clear H1;replace H := Option.bind_eq_some_iff.mp H
     obtain ⟨⟨t161, t162⟩, A80, H⟩ := H
     replace H : (some (wrap64 (x7_1 + (wrap64 (a0 - t161))))) = some r := H
     have A8 := Aside0.mk A80;clear A80
     obtain rfl := Option.some.inj H
     go_wp2_with (first | ((with_reducible refine xaQ (f := 94) rfl ?_); refine goesL_ (some 28) rfl rfl Try.func94 (by kernel_rfl) rfl #[.int .i64 t155] rfl (by (try simp only [List.map_toArray, List.map_cons, List.map_nil]); first | done | rfl | (simp only [List.length_drop, List.length_take]; rfl)) ?_; (with_reducible refine (xdX.calls t155 true _ A6.out).mono ?_); rintro e w' ⟨rfl, ⟨nd, rfl⟩⟩; refine ⟨_, rfl, ?_⟩) | ((with_reducible refine xaQ (f := 95) rfl ?_); refine goesL_ (some 31) rfl rfl Try.func95 (by kernel_rfl) rfl #[.int .i64 t155, .int .i64 1, .int .i64 1] rfl (by (try simp only [List.map_toArray, List.map_cons, List.map_nil]); first | done | rfl | (simp only [List.length_drop, List.length_take]; rfl)) ?_; (with_reducible refine (xeP.calls k1 t155 1 1 t161 t162 _ A8.out).mono ?_); rintro e w' ⟨rfl, ⟨nd, rfl⟩⟩; refine ⟨_, rfl, ?_⟩))
     go_ret
     exact ⟨by first | rfl | (simp; done) | (simp [*]; done), by repeat (first | exact Drawn0.refl _ | apply Drawn0.step)⟩
    ·
     replace c7 := Bool.eq_false_iff.mpr c7;subst c7
     have H1 : (some x7_1) = some r := by rw [if_neg (show ¬ (false = true) by decide)] at H; exact H
     clear H;have H := H1;clear H1
     obtain rfl := Option.some.inj H
     go_wp2_with (first | ((with_reducible refine xaQ (f := 94) rfl ?_); refine goesL_ (some 28) rfl rfl Try.func94 (by kernel_rfl) rfl #[.int .i64 t155] rfl (by (try simp only [List.map_toArray, List.map_cons, List.map_nil]); first | done | rfl | (simp only [List.length_drop, List.length_take]; rfl)) ?_; (with_reducible refine (xdX.calls t155 false _ A6.out).mono ?_); rintro e w' ⟨rfl, ⟨nd, rfl⟩⟩; refine ⟨_, rfl, ?_⟩))
     go_ret
     exact ⟨by first | rfl | (simp; done) | (simp [*]; done), by repeat (first | exact Drawn0.refl _ | apply Drawn0.step)⟩
def xdU.f (k : Nat) (a0 : Int) (a1 : Int) (a2 : Bool) : Option (Int) := (xdA.f k a0).bind fun bt163 => ((xdA.f k a1).bind fun bt167 => (if a2 = true then (some (wrap64 ((wrap64 ((wrap64 ((wrap64 (360 * (wrap64 (bt167.1 - bt163.1)))) + (wrap64 (30 * (wrap64 (bt167.2.1 - bt163.2.1)))))) + (mn bt167.2.2.1 30))) - (mn bt163.2.2.1 30)))) else (if (mn bt163.2.2.1 30) = 30 then (some (wrap64 ((wrap64 ((wrap64 ((wrap64 (360 * (wrap64 (bt167.1 - bt163.1)))) + (wrap64 (30 * (wrap64 (bt167.2.1 - bt163.2.1)))))) + (mn bt167.2.2.1 30))) - (mn bt163.2.2.1 30)))) else (some (wrap64 ((wrap64 ((wrap64 ((wrap64 (360 * (wrap64 (bt167.1 - bt163.1)))) + (wrap64 (30 * (wrap64 (bt167.2.1 - bt163.2.1)))))) + bt167.2.2.1)) - (mn bt163.2.2.1 30)))))))
set_option maxHeartbeats 8000000 in
set_option maxRecDepth 100000 in
theorem xdU.calls (k : Nat) (a0 : Int) (a1 : Int) (a2 : Bool) (r : Int) (w : World) (h : xdU.f k a0 a1 a2 = some r) :
  Calls Try.prog 63 #[.int .i64 a0, .int .i64 a1, .bool a2] w fun e w' => e = .returned (.int .i64 r) ∧ Below w.heap.size w w' := by
 have HB := Aside0.mk (Below.refl w.heap.size w)
 have H : ((xdA.f k a0).bind fun bt163 => ((xdA.f k a1).bind fun bt167 => (if a2 = true then (some (wrap64 ((wrap64 ((wrap64 ((wrap64 (360 * (wrap64 (bt167.1 - bt163.1)))) + (wrap64 (30 * (wrap64 (bt167.2.1 - bt163.2.1)))))) + (mn bt167.2.2.1 30))) - (mn bt163.2.2.1 30)))) else (if (mn bt163.2.2.1 30) = 30 then (some (wrap64 ((wrap64 ((wrap64 ((wrap64 (360 * (wrap64 (bt167.1 - bt163.1)))) + (wrap64 (30 * (wrap64 (bt167.2.1 - bt163.2.1)))))) + (mn bt167.2.2.1 30))) - (mn bt163.2.2.1 30)))) else (some (wrap64 ((wrap64 ((wrap64 ((wrap64 (360 * (wrap64 (bt167.1 - bt163.1)))) + (wrap64 (30 * (wrap64 (bt167.2.1 - bt163.2.1)))))) + bt167.2.2.1)) - (mn bt163.2.2.1 30)))))))) = some r := h
 clear h;replace H := Option.bind_eq_some_iff.mp H
 obtain ⟨⟨t163, t164, t165, t166⟩, A40, H⟩ := H
 replace H : ((xdA.f k a1).bind fun bt167 => (if a2 = true then (some (wrap64 ((wrap64 ((wrap64 ((wrap64 (360 * (wrap64 (bt167.1 - t163)))) + (wrap64 (30 * (wrap64 (bt167.2.1 - t164)))))) + (mn bt167.2.2.1 30))) - (mn t165 30)))) else (if (mn t165 30) = 30 then (some (wrap64 ((wrap64 ((wrap64 ((wrap64 (360 * (wrap64 (bt167.1 - t163)))) + (wrap64 (30 * (wrap64 (bt167.2.1 - t164)))))) + (mn bt167.2.2.1 30))) - (mn t165 30)))) else (some (wrap64 ((wrap64 ((wrap64 ((wrap64 (360 * (wrap64 (bt167.1 - t163)))) + (wrap64 (30 * (wrap64 (bt167.2.1 - t164)))))) + bt167.2.2.1)) - (mn t165 30))))))) = some r := H
 have A4 := Aside0.mk A40;clear A40;replace H := Option.bind_eq_some_iff.mp H
 obtain ⟨⟨t167, t168, t169, t170⟩, A50, H⟩ := H
 replace H : (if a2 = true then (some (wrap64 ((wrap64 ((wrap64 ((wrap64 (360 * (wrap64 (t167 - t163)))) + (wrap64 (30 * (wrap64 (t168 - t164)))))) + (mn t169 30))) - (mn t165 30)))) else (if (mn t165 30) = 30 then (some (wrap64 ((wrap64 ((wrap64 ((wrap64 (360 * (wrap64 (t167 - t163)))) + (wrap64 (30 * (wrap64 (t168 - t164)))))) + (mn t169 30))) - (mn t165 30)))) else (some (wrap64 ((wrap64 ((wrap64 ((wrap64 (360 * (wrap64 (t167 - t163)))) + (wrap64 (30 * (wrap64 (t168 - t164)))))) + t169)) - (mn t165 30)))))) = some r := H
 have A5 := Aside0.mk A50;clear A50
 obtain ⟨ji6, hji6⟩ : ∃ j_ : Int, (mn t165 30) = j_ := ⟨_, rfl⟩
 replace H : (if a2 = true then (some (wrap64 ((wrap64 ((wrap64 ((wrap64 (360 * (wrap64 (t167 - t163)))) + (wrap64 (30 * (wrap64 (t168 - t164)))))) + (mn t169 30))) - (ji6)))) else (if (ji6) = 30 then (some (wrap64 ((wrap64 ((wrap64 ((wrap64 (360 * (wrap64 (t167 - t163)))) + (wrap64 (30 * (wrap64 (t168 - t164)))))) + (mn t169 30))) - (ji6)))) else (some (wrap64 ((wrap64 ((wrap64 ((wrap64 (360 * (wrap64 (t167 - t163)))) + (wrap64 (30 * (wrap64 (t168 - t164)))))) + t169)) - (ji6)))))) = some r := by first | (rw [hji6] at H; exact H) | (simp only [hji6] at H ⊢; exact H)
 (try rw [hji6] at A4)
 (try rw [hji6] at A5)
 (try (have hji6h : ji6 ≤ 30 := by (rw [← hji6]; unfold mn; (repeat' split) <;> omega)))
 (try (have hji6g : ji6 ≤ 64 := by omega))
 have hji6_ : (if 30 < t165 then 30 else t165) = ji6 := hji6
 by_cases c7 : a2 = true
 ·
  subst c7
  have H1 : (some (wrap64 ((wrap64 ((wrap64 ((wrap64 (360 * (wrap64 (t167 - t163)))) + (wrap64 (30 * (wrap64 (t168 - t164)))))) + (mn t169 30))) - (ji6)))) = some r := by rw [if_pos rfl] at H; exact H
  clear H;have H := H1;clear H1
  obtain ⟨ji8, hji8⟩ : ∃ j_ : Int, (mn t169 30) = j_ := ⟨_, rfl⟩
  replace H : (some (wrap64 ((wrap64 ((wrap64 ((wrap64 (360 * (wrap64 (t167 - t163)))) + (wrap64 (30 * (wrap64 (t168 - t164)))))) + (ji8))) - (ji6)))) = some r := by first | (rw [hji8] at H; exact H) | (simp only [hji8] at H ⊢; exact H)
  (try rw [hji8] at A4)
  (try rw [hji8] at A5)
  (try (have hji8h : ji8 ≤ 30 := by (rw [← hji8]; unfold mn; (repeat' split) <;> omega)))
  (try (have hji8g : ji8 ≤ 64 := by omega))
  have hji8_ : (if 30 < t169 then 30 else t169) = ji8 := hji8
  obtain rfl := Option.some.inj H
  go_enter Try.func63, Try.ntmps63
  go_wp2_with (first | ((with_reducible refine xaQ (f := 93) rfl ?_); refine goesL_ (some 17) rfl rfl Try.func93 (by kernel_rfl) rfl #[.int .i64 a0] rfl (by (try simp only [List.map_toArray, List.map_cons, List.map_nil]); first | done | rfl | (simp only [List.length_drop, List.length_take]; rfl)) ?_; (with_reducible refine (xdA.calls k a0 t163 t164 t165 t166 _ A4.out).mono ?_); rintro e w' ⟨rfl, ⟨nd, rfl⟩⟩; refine ⟨_, rfl, ?_⟩) | ((with_reducible refine xaQ (f := 93) rfl ?_); refine goesL_ (some 24) rfl rfl Try.func93 (by kernel_rfl) rfl #[.int .i64 a1] rfl (by (try simp only [List.map_toArray, List.map_cons, List.map_nil]); first | done | rfl | (simp only [List.length_drop, List.length_take]; rfl)) ?_; (with_reducible refine (xdA.calls k a1 t167 t168 t169 t170 _ A5.out).mono ?_); rintro e w' ⟨rfl, ⟨nd, rfl⟩⟩; refine ⟨_, rfl, ?_⟩))
  go_ret
  exact ⟨by first | rfl | (simp [xaL, xaK] <;> rfl) | (simp only [← hji6, ← hji8]; first | rfl | (simp [xaL, xaK] <;> rfl)) | (simp [*, xaL, xaK] <;> rfl), by repeat (first | (with_reducible first | exact HB.out | apply xaB | apply xaA | apply xaC) | exact HB.out)⟩
 ·
  replace c7 := Bool.eq_false_iff.mpr c7;subst c7
  have H1 : (if (ji6) = 30 then (some (wrap64 ((wrap64 ((wrap64 ((wrap64 (360 * (wrap64 (t167 - t163)))) + (wrap64 (30 * (wrap64 (t168 - t164)))))) + (mn t169 30))) - (ji6)))) else (some (wrap64 ((wrap64 ((wrap64 ((wrap64 (360 * (wrap64 (t167 - t163)))) + (wrap64 (30 * (wrap64 (t168 - t164)))))) + t169)) - (ji6))))) = some r := by rw [if_neg (show ¬ (false = true) by decide)] at H; exact H
  clear H;have H := H1;clear H1
  by_cases c9 : (ji6) = 30
  ·
   rw [if_pos c9] at H
   have c9b0 : ((ji6) == 30) = true := beq_iff_eq.mpr c9
   have c9b1 : ((ji6) != 30) = false := bne_eq_false_iff_eq.mpr c9
   clear c9
   obtain ⟨ji10, hji10⟩ : ∃ j_ : Int, (mn t169 30) = j_ := ⟨_, rfl⟩
   replace H : (some (wrap64 ((wrap64 ((wrap64 ((wrap64 (360 * (wrap64 (t167 - t163)))) + (wrap64 (30 * (wrap64 (t168 - t164)))))) + (ji10))) - (ji6)))) = some r := by first | (rw [hji10] at H; exact H) | (simp only [hji10] at H ⊢; exact H)
   (try rw [hji10] at A4)
   (try rw [hji10] at A5)
   (try (have hji10h : ji10 ≤ 30 := by (rw [← hji10]; unfold mn; (repeat' split) <;> omega)))
   (try (have hji10g : ji10 ≤ 64 := by omega))
   have hji10_ : (if 30 < t169 then 30 else t169) = ji10 := hji10
   obtain rfl := Option.some.inj H
   go_enter Try.func63, Try.ntmps63
   go_wp2_with (first | ((with_reducible refine xaQ (f := 93) rfl ?_); refine goesL_ (some 17) rfl rfl Try.func93 (by kernel_rfl) rfl #[.int .i64 a0] rfl (by (try simp only [List.map_toArray, List.map_cons, List.map_nil]); first | done | rfl | (simp only [List.length_drop, List.length_take]; rfl)) ?_; (with_reducible refine (xdA.calls k a0 t163 t164 t165 t166 _ A4.out).mono ?_); rintro e w' ⟨rfl, ⟨nd, rfl⟩⟩; refine ⟨_, rfl, ?_⟩) | ((with_reducible refine xaQ (f := 93) rfl ?_); refine goesL_ (some 24) rfl rfl Try.func93 (by kernel_rfl) rfl #[.int .i64 a1] rfl (by (try simp only [List.map_toArray, List.map_cons, List.map_nil]); first | done | rfl | (simp only [List.length_drop, List.length_take]; rfl)) ?_; (with_reducible refine (xdA.calls k a1 t167 t168 t169 t170 _ A5.out).mono ?_); rintro e w' ⟨rfl, ⟨nd, rfl⟩⟩; refine ⟨_, rfl, ?_⟩))
   go_ret
   exact ⟨by first | rfl | (simp [xaL, xaK] <;> rfl) | (simp only [← hji6, ← hji10]; first | rfl | (simp [xaL, xaK] <;> rfl)) | (simp [*, xaL, xaK] <;> rfl), by repeat (first | (with_reducible first | exact HB.out | apply xaB | apply xaA | apply xaC) | exact HB.out)⟩
  ·
   rw [if_neg c9] at H
   have c9b0 : ((ji6) == 30) = false := beq_eq_false_iff_ne.mpr c9
   have c9b1 : ((ji6) != 30) = true := bne_iff_ne.mpr c9
   obtain rfl := Option.some.inj H
   go_enter Try.func63, Try.ntmps63
   go_wp2_with (first | ((with_reducible refine xaQ (f := 93) rfl ?_); refine goesL_ (some 17) rfl rfl Try.func93 (by kernel_rfl) rfl #[.int .i64 a0] rfl (by (try simp only [List.map_toArray, List.map_cons, List.map_nil]); first | done | rfl | (simp only [List.length_drop, List.length_take]; rfl)) ?_; (with_reducible refine (xdA.calls k a0 t163 t164 t165 t166 _ A4.out).mono ?_); rintro e w' ⟨rfl, ⟨nd, rfl⟩⟩; refine ⟨_, rfl, ?_⟩) | ((with_reducible refine xaQ (f := 93) rfl ?_); refine goesL_ (some 24) rfl rfl Try.func93 (by kernel_rfl) rfl #[.int .i64 a1] rfl (by (try simp only [List.map_toArray, List.map_cons, List.map_nil]); first | done | rfl | (simp only [List.length_drop, List.length_take]; rfl)) ?_; (with_reducible refine (xdA.calls k a1 t167 t168 t169 t170 _ A5.out).mono ?_); rintro e w' ⟨rfl, ⟨nd, rfl⟩⟩; refine ⟨_, rfl, ?_⟩))
   go_ret
   exact ⟨by first | rfl | (have e_ : t165 = ji6 := (by by_cases h_ : 30 < t165 <;> simp only [h_, if_true, if_false] at hji6_ <;> omega); rw [e_]; rfl) | (simp [xaL, xaK] <;> rfl) | (simp only [← hji6]; first | rfl | (simp [xaL, xaK] <;> rfl)) | (simp [*, xaL, xaK] <;> rfl), by repeat (first | (with_reducible first | exact HB.out | apply xaB | apply xaA | apply xaC) | exact HB.out)⟩
end Go.Proofs.Ytoncignjcgjhhaa.Q
