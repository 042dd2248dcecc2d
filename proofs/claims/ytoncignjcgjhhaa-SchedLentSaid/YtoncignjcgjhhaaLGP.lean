/- Contracts and facts of functions of the program (calendar, dates and their documents), joined in one text by a program of this session. No condition but what each theorem states. -/
import Derived.Test.YtoncignjcgjhhaaLGA
import Derived.Test.YtoncignjcgjhhaaLGL
import Derived.Test.YtoncignjcgjhhaaLGF
import Derived.Test.YtoncignjcgjhhaaLGH
set_option linter.unusedVariables false
set_option linter.unusedSimpArgs false
namespace Go.Proofs.Ytoncignjcgjhhaa.Q
open Go.RowKit Go.Proofs.YtoncignjcgjhhaaW.PrintWords Go.Proofs.YtoncignjcgjhhaaW.PrintLast Go.Proofs.YtoncignjcgjhhaaW.PrintMore
attribute [local go_sem] max2_int min2_int max_two min_two max_three min_three max_four min_four   -- for this text's walks alone
def tenorref8_SameInts.l0 : Nat → List Int → List Int → Int → Option (Bool)
  | 0, _, _, _ => none
  | k + 1, x0, x1, x5 => if x5 < (x0.length : Int) then (if 0 ≤ x5 then (if x5 < (x1.length : Int) then (if (rd x0 x5) = (rd x1 x5) then (tenorref8_SameInts.l0 k x0 x1 (wrap64 (x5 + 1))) else (some false)) else (none)) else (none)) else (some true)
def tenorref8_SameInts.f (k : Nat) (l0 : List Int) (l1 : List Int) : Option (Bool) := if (l0.length : Int) = (l1.length : Int) then (tenorref8_SameInts.l0 k l0 l1 0) else (some false)
theorem tenorref8_SameInts.mono_l : ∀ k, (∀ y0 y1 y2, LeO (tenorref8_SameInts.l0 k y0 y1 y2) (tenorref8_SameInts.l0 (k + 1) y0 y1 y2))
 | 0 => fun _ _ _ r h => by simp [tenorref8_SameInts.l0] at h
 | k + 1 => by
  have ih0 := tenorref8_SameInts.mono_l k
  ·
   intro y0 y1 y2
   unfold tenorref8_SameInts.l0
   exact mL
theorem tenorref8_SameInts.mono : ∀ a0 a1 k, LeO (tenorref8_SameInts.f k a0 a1) (tenorref8_SameInts.f (k + 1) a0 a1) := by
 intro a0 a1 k
 have ih0 := tenorref8_SameInts.mono_l k
 unfold tenorref8_SameInts.f
 exact mL
set_option maxHeartbeats 8000000 in
set_option maxRecDepth 100000 in
theorem tenorref8_SameInts.calls (k : Nat) (A0 : Option Addr) (c0 : Nat) (l0 : List Int) (A1 : Option Addr) (c1 : Nat) (l1 : List Int) (r : Bool) (w : World) (hr0 : Kd.C (Kd.int .i64) w A0 l0.length l0) (hc0 : l0.length ≤ c0) (hr1 : Kd.C (Kd.int .i64) w A1 l1.length l1) (hc1 : l1.length ≤ c1) (h : tenorref8_SameInts.f k l0 l1 = some r) :
  Calls Try.prog 52 #[.slice A0 l0.length c0, .slice A1 l1.length c1] w fun e w' => e = .returned (.bool r) ∧ Drawn0 w w' := by
 have HR0 := Aside0.mk hr0;have HC0 := Aside0.mk hc0;clear hr0 hc0;have HR1 := Aside0.mk hr1;have HC1 := Aside0.mk hc1;clear hr1 hc1
 have H : (if (l0.length : Int) = (l1.length : Int) then (tenorref8_SameInts.l0 k l0 l1 0) else (some false)) = some r := h
 clear h
 by_cases c3 : (l0.length : Int) = (l1.length : Int)
 ·
  rw [if_pos c3] at H
  have c3b0 : ((l0.length : Int) == (l1.length : Int)) = true := beq_iff_eq.mpr c3
  have c3b1 : ((l0.length : Int) != (l1.length : Int)) = false := bne_eq_false_iff_eq.mpr c3
  have c3b2 : (l0.length == l1.length) = true := by first | simpa using c3 | (simp at c3 ⊢; omega)
  clear c3;have H' := Aside0.mk H;clear H
  go_enter Try.func52, Try.ntmps52
  go_wp2
  repeat (go_quiet (fail); try go_wp2)
  go_loopg [5] k (fun kq v5 w' => ∃ (x5_1 : Int), v5 = .int .i64 x5_1 ∧ Aside0 (tenorref8_SameInts.l0 kq l0 l1 x5_1 = some r) ∧ Aside0 (kq ≤ k) ∧ Drawn0 w w')
  case atStart => exact ⟨(0), eS, H', ⟨Nat.le_refl _⟩, eD⟩
  case round =>
   clear H'
   obtain ⟨x5_1, rfl, HA, HK1, ⟨m1, rfl⟩⟩ := hrel
   cases gk with
   | zero => exact absurd HA.out (by simp [tenorref8_SameInts.l0])
   | succ k1 =>
    have H := HA.out;clear HA
    simp only [tenorref8_SameInts.l0] at H
    by_cases c4 : x5_1 < (l0.length : Int)
    ·
     rw [if_pos c4] at H
     have c4b0 : decide (x5_1 < (l0.length : Int)) = true := decide_eq_true c4
     clear c4
     by_cases c5 : 0 ≤ x5_1
     ·
      rw [if_pos c5] at H
      have c5b0 : decide (0 ≤ x5_1) = true := decide_eq_true c5
      clear c5
      by_cases c6 : x5_1 < (l1.length : Int)
      ·
       rw [if_pos c6] at H
       have c6b0 : decide (x5_1 < (l1.length : Int)) = true := decide_eq_true c6
       clear c6
       by_cases c7 : (rd l0 x5_1) = (rd l1 x5_1)
       ·
        rw [if_pos c7] at H
        have c7b0 : ((rd l0 x5_1) == (rd l1 x5_1)) = true := beq_iff_eq.mpr c7
        have c7b1 : ((rd l0 x5_1) != (rd l1 x5_1)) = false := bne_eq_false_iff_eq.mpr c7
        clear c7;have H' := Aside0.mk H;clear H
        have p748 : 0 ≤ (x5_1 : Int) := of_decide_eq_true tA
        have q748 : x5_1 < (l0.length : Int) := of_decide_eq_true tA
        obtain ⟨ad748, e748, hx748_0⟩ := Kd.at_int HR0.out x5_1 p748 q748
        cases e748
        replace p748 := eq_true p748;replace q748 := eq_true q748
        have p749 : 0 ≤ (x5_1 : Int) := of_decide_eq_true tA
        have q749 : x5_1 < (l1.length : Int) := of_decide_eq_true tA
        obtain ⟨ad749, e749, hx749_0⟩ := Kd.at_int HR1.out x5_1 p749 q749
        cases e749
        replace p749 := eq_true p749;replace q749 := eq_true q749
        go_wp2
        repeat (go_quiet (fail); try go_wp2)
        go_roundg k1
        case measure => have := HK1.out; omega
        case rel => exact ⟨(wrap64 (x5_1 + 1)), eS, H', ⟨by have := HK1.out; omega⟩, eD⟩
       ·
        rw [if_neg c7] at H
        have c7b0 : ((rd l0 x5_1) == (rd l1 x5_1)) = false := beq_eq_false_iff_ne.mpr c7
        have c7b1 : ((rd l0 x5_1) != (rd l1 x5_1)) = true := bne_iff_ne.mpr c7
        obtain rfl := Option.some.inj H
        have p748 : 0 ≤ (x5_1 : Int) := of_decide_eq_true tA
        have q748 : x5_1 < (l0.length : Int) := of_decide_eq_true tA
        obtain ⟨ad748, e748, hx748_0⟩ := Kd.at_int HR0.out x5_1 p748 q748
        cases e748
        replace p748 := eq_true p748;replace q748 := eq_true q748
        have p749 : 0 ≤ (x5_1 : Int) := of_decide_eq_true tA
        have q749 : x5_1 < (l1.length : Int) := of_decide_eq_true tA
        obtain ⟨ad749, e749, hx749_0⟩ := Kd.at_int HR1.out x5_1 p749 q749
        cases e749
        replace p749 := eq_true p749;replace q749 := eq_true q749
        go_wp2
        repeat (go_quiet (fail); try go_wp2)
        go_ret
        exact ⟨eS, eD⟩
      ·
       rw [if_neg c6] at H
       exact absurd H (by simp)
     ·
      rw [if_neg c5] at H
      exact absurd H (by simp)
    ·
     rw [if_neg c4] at H
     have c4b0 : decide (x5_1 < (l0.length : Int)) = false := decide_eq_false c4
     clear c4
     obtain rfl := Option.some.inj H
     go_wp2
     repeat (go_quiet (fail); try go_wp2)
     go_ret
     exact ⟨eS, eD⟩
 ·
  rw [if_neg c3] at H
  have c3b0 : ((l0.length : Int) == (l1.length : Int)) = false := beq_eq_false_iff_ne.mpr c3
  have c3b1 : ((l0.length : Int) != (l1.length : Int)) = true := bne_iff_ne.mpr c3
  have c3b2 : (l0.length == l1.length) = false := by first | simpa using c3 | (simp at c3 ⊢; omega)
  obtain rfl := Option.some.inj H
  go_enter Try.func52, Try.ntmps52
  go_wp2
  repeat (go_quiet (fail); try go_wp2)
  go_ret
  exact ⟨eS, eD⟩
end Go.Proofs.Ytoncignjcgjhhaa.Q
namespace Go.Proofs.Ytoncignjcgjhhaa.S
open Go.RowKit Go.Proofs.YtoncignjcgjhhaaW.PrintWords Go.Proofs.YtoncignjcgjhhaaW.PrintLast Go.Proofs.YtoncignjcgjhhaaW.PrintMore
open Go.Proofs.Ytoncignjcgjhhaa.Q
open Go.Proofs.Ytoncignjcgjhhaa.L (w64 td tm tm0)
theorem SameInts_l0 (l : List Int) (hl : l.length ≤ 5000) : ∀ (f i : Nat), l.length - i = f → i ≤ l.length → Ev (fun k => tenorref8_SameInts.l0 k l l (i : Int)) true
 | 0, i, hf, hi => by
  refine Ev.step (f := fun _ => some true) (fun k => ?_) (Ev.now _)
  rw [tenorref8_SameInts.l0, if_neg (by omega)]
 | f + 1, i, hf, hi => by
  have c1 : (i : Int) < (l.length : Int) := by omega
  have c2 : (0 : Int) ≤ (i : Int) := by omega
  have hw : wrap64 ((i : Int) + 1) = ((i + 1 : Nat) : Int) := by rw [w64 (by omega) (by omega)]; push_cast; rfl
  refine Ev.step (fun k => ?_) (SameInts_l0 l hl f (i + 1) (by omega) (by omega))
  rw [tenorref8_SameInts.l0, if_pos c1, if_pos c2, if_pos c1, if_pos rfl, hw]
theorem SameInts (l : List Int) (hl : l.length ≤ 5000) : Ev (fun k => tenorref8_SameInts.f k l l) true := by
  refine Ev.congr (fun k => by unfold tenorref8_SameInts.f; rw [if_pos rfl]; rfl) (SameInts_l0 l hl l.length 0 (by omega) (by omega))
theorem inn_len (s : Sp) (b : Bool) (x z d : Int) : ∀ (f i : Nat) (p : List Int × Bool), s.inn b x z d f i = some p → p.1.length ≤ f
 | 0, i, p, h => by cases h
 | f + 1, i, p, h => by
  rw [Sp.inn] at h
  cases ho : s.pt x (d * ((i : Int) + 1)) with
  | none => rw [ho] at h; simp only [Option.some.injEq] at h; subst h; exact Nat.zero_le _
  | some n =>
   rw [ho] at h
   simp only at h
   by_cases c1 : n = z
   ·
    rw [if_pos c1] at h; simp only [Option.some.injEq] at h; subst h; exact Nat.zero_le _
   ·
    rw [if_neg c1] at h
    by_cases c2 : (if b = true then n < z else n > z)
    ·
     rw [if_pos c2] at h; simp only [Option.some.injEq] at h; subst h; exact Nat.zero_le _
    ·
     rw [if_neg c2] at h
     by_cases c3 : 1200 < (i : Int) + 2
     ·
      rw [if_pos c3] at h; cases h
     ·
      rw [if_neg c3] at h
      obtain ⟨q, hq, rfl⟩ := Option.map_eq_some_iff.1 h
      have := inn_len s b x z d f (i + 1) q hq
      simp only [List.length_cons]; omega
theorem dates_len (s : Sp) : s.dates.1.length ≤ 5000 := by
 unfold Sp.dates
 by_cases hc : s.chk = 0
 ·
  rw [if_pos hc]
  have key : ∀ o : Option (List Int × Bool), (∀ p, o = some p → p.1.length ≤ 1200) → (match o with | none => (([] : List Int), (81 : Int)) | some (l, e) => (s.out l e, 0)).1.length ≤ 5000 := by
   intro o h
   cases o with
   | none => exact Nat.zero_le _
   | some p =>
    have h1 := h p rfl;have h2 := cut_len s.long p.2 p.1
    show (s.out p.1 p.2).length ≤ 5000
    unfold Sp.out
    rw [List.length_append, List.length_cons, ord_len]
    simp only [List.length_cons, List.length_nil]; omega
  refine key _ (fun p hp => ?_)
  split at hp
  ·
   exact inn_len s _ _ _ _ 1200 0 p hp
  ·
   exact inn_len s _ _ _ _ 1200 0 p hp
 ·
  rw [if_neg hc]; exact Nat.zero_le _
end Go.Proofs.Ytoncignjcgjhhaa.S
namespace Go.Proofs.Ytoncignjcgjhhaa.Q
open Go.RowKit Go.Proofs.YtoncignjcgjhhaaW.PrintWords Go.Proofs.YtoncignjcgjhhaaW.PrintLast Go.Proofs.YtoncignjcgjhhaaW.PrintMore
attribute [local go_sem] max2_int min2_int max_two min_two max_three min_three max_four min_four   -- for this text's walks alone
def tenorlaw8_awake.f (k : Nat)  : Option (Bool) := (sched_Dates.f k 45670 45898 3 3 1 0 0 0 0 ([] : List (S63))).bind fun bt751 => ((sched_Periods.f k 45670 45898 3 3 1 0 0 0 0 ([] : List (S63))).bind fun bt755 => (if bt751.2 = 0 then (if bt755.2 = 0 then ((tenorref8_SameInts.f k bt751.1 (([45670, 45714, 45806, 45898] : List Int))).bind fun t762 => (if t762 = true then (if (bt755.1.length : Int) = 3 then (if 2 < (bt755.1.length : Int) then (some (((rd_T81 bt755.1 2).f4) == 45898)) else (none)) else (some false)) else (some false))) else (some false)) else (some false)))
theorem tenorlaw8_awake.mono : ∀ k, LeO (tenorlaw8_awake.f k ) (tenorlaw8_awake.f (k + 1) ) := by
 intro  k
 unfold tenorlaw8_awake.f
 have m0 := @sched_Dates.mono
 have m1 := @sched_Periods.mono
 have m2 := @tenorref8_SameInts.mono
 exact mL
theorem tenorlaw8_awake.told (k : Nat) (r : Bool) (h : tenorlaw8_awake.f k = some r) : r = true := by
 have e : tenorlaw8_awake.f 40 = some true := by decide +kernel
 rcases Nat.le_total k 40 with hk | hk
 ·
  exact Option.some.inj ((at_rounds tenorlaw8_awake.mono hk h).symm.trans e)
 ·
  exact Option.some.inj (h.symm.trans (at_rounds tenorlaw8_awake.mono hk e))
set_option maxHeartbeats 8000000 in
set_option maxRecDepth 100000 in
theorem tenorlaw8_awake.calls (k : Nat)  (r : Bool) (w : World) (h : tenorlaw8_awake.f k  = some r) :
  Calls Try.prog 49 #[] w fun e w' => e = .returned (.bool r) ∧ Below w.heap.size w w' := by
 have hu66 := Try.underlying66
 have HB := Aside0.mk (Below.refl w.heap.size w)
 have H : ((sched_Dates.f k 45670 45898 3 3 1 0 0 0 0 ([] : List (S63))).bind fun bt751 => ((sched_Periods.f k 45670 45898 3 3 1 0 0 0 0 ([] : List (S63))).bind fun bt755 => (if bt751.2 = 0 then (if bt755.2 = 0 then ((tenorref8_SameInts.f k bt751.1 (([45670, 45714, 45806, 45898] : List Int))).bind fun t762 => (if t762 = true then (if (bt755.1.length : Int) = 3 then (if 2 < (bt755.1.length : Int) then (some (((rd_T81 bt755.1 2).f4) == 45898)) else (none)) else (some false)) else (some false))) else (some false)) else (some false)))) = some r := h
 have HT : r = true := tenorlaw8_awake.told k r h
 clear h;replace H := Option.bind_eq_some_iff.mp H
 obtain ⟨⟨t751, t754⟩, A10, H⟩ := H
 replace H : ((sched_Periods.f k 45670 45898 3 3 1 0 0 0 0 ([] : List (S63))).bind fun bt755 => (if t754 = 0 then (if bt755.2 = 0 then ((tenorref8_SameInts.f k t751 (([45670, 45714, 45806, 45898] : List Int))).bind fun t762 => (if t762 = true then (if (bt755.1.length : Int) = 3 then (if 2 < (bt755.1.length : Int) then (some (((rd_T81 bt755.1 2).f4) == 45898)) else (none)) else (some false)) else (some false))) else (some false)) else (some false))) = some r := H
 have A1 := Aside0.mk A10;clear A10;replace H := Option.bind_eq_some_iff.mp H
 obtain ⟨⟨t755, t758⟩, A20, H⟩ := H
 replace H : (if t754 = 0 then (if t758 = 0 then ((tenorref8_SameInts.f k t751 (([45670, 45714, 45806, 45898] : List Int))).bind fun t762 => (if t762 = true then (if (t755.length : Int) = 3 then (if 2 < (t755.length : Int) then (some (((rd_T81 t755 2).f4) == 45898)) else (none)) else (some false)) else (some false))) else (some false)) else (some false)) = some r := H
 have A2 := Aside0.mk A20;clear A20
 by_cases c3 : t754 = 0
 ·
  rw [if_pos c3] at H
  have c3b0 : (t754 == 0) = true := beq_iff_eq.mpr c3
  have c3b1 : (t754 != 0) = false := bne_eq_false_iff_eq.mpr c3
  clear c3
  by_cases c4 : t758 = 0
  ·
   rw [if_pos c4] at H
   have c4b0 : (t758 == 0) = true := beq_iff_eq.mpr c4
   have c4b1 : (t758 != 0) = false := bne_eq_false_iff_eq.mpr c4
   clear c4
   obtain ⟨y759, hy759⟩ : ∃ y_ : List Int, y_ = (([45670, 45714, 45806, 45898] : List Int)) := ⟨_, rfl⟩
   replace H : ((tenorref8_SameInts.f k t751 y759).bind fun t762 => (if t762 = true then (if (t755.length : Int) = 3 then (if 2 < (t755.length : Int) then (some (((rd_T81 t755 2).f4) == 45898)) else (none)) else (some false)) else (some false))) = some r := by first | (rw [hy759]; with_reducible exact H) | (have H2_ := (Option.bind_some _ _).symm.trans H; rw [hy759]; with_reducible exact H2_) | (have H2_ := (Option.bind_some _ _).symm.trans H; with_reducible exact H2_) | with_reducible exact H | (rw [hy759]; exact H) | exact H
   have Ny759 := Aside0.mk hy759;clear hy759;replace H := Option.bind_eq_some_iff.mp H
   obtain ⟨t762, A50, H⟩ := H
   replace H : (if t762 = true then (if (t755.length : Int) = 3 then (if 2 < (t755.length : Int) then (some (((rd_T81 t755 2).f4) == 45898)) else (none)) else (some false)) else (some false)) = some r := H
   have A5 := Aside0.mk A50;clear A50
   by_cases c6 : t762 = true
   ·
    subst c6
    have H1 : (if (t755.length : Int) = 3 then (if 2 < (t755.length : Int) then (some (((rd_T81 t755 2).f4) == 45898)) else (none)) else (some false)) = some r := by rw [if_pos rfl] at H; exact H
    clear H;have H := H1;clear H1
    by_cases c7 : (t755.length : Int) = 3
    ·
     rw [if_pos c7] at H
     have c7b0 : ((t755.length : Int) == 3) = true := beq_iff_eq.mpr c7
     have c7b1 : ((t755.length : Int) != 3) = false := bne_eq_false_iff_eq.mpr c7
     clear c7
     by_cases c8 : 2 < (t755.length : Int)
     ·
      rw [if_pos c8] at H
      have c8b0 : decide (2 < (t755.length : Int)) = true := decide_eq_true c8
      have c8b1 : decide (2 < t755.length) = true := decide_eq_true (by omega)
      clear c8
      obtain rfl := Option.some.inj H
      go_enter Try.func49, Try.ntmps49
      go_wp2_with (first | ((with_reducible refine gate_dst (N := 1) rfl ?_); (try (refine gate_guard (by rfl) ?_; dsimp only)); refine box_event ?hg (N := 1) ?hd (cs := #[.int .i64 0, .int .i64 0, .int .i64 0, .int .i64 0, .int .i64 0, .int .i64 0, .int .i64 0, .int .i64 0, .int .i64 0, .slice none 0 0]) (t := 66) ?hr ?_; (case hd => rfl); (case hg => rfl); (case hr => first | (go_simp; done) | (go_simp; rfl)); intro gb750 hg w9 hbox hb; have BK750 := Aside0.mk (hbox); have GW750 := bG hg; have GE750 := bG hg; replace HB := bS hb; clear hb hbox hg; obtain ⟨_,_,_,_,_,_,_,_,_,_,_,_,_,_,_,_,_,_,_,_⟩ := blk10 BK750) | ((with_reducible refine gG 50 ?_); refine goA (some 9) Try.func50 #[.agg #[.int .i64 45670, .int .i64 45898, .int .i64 3, .int .i64 3, .int .i64 1, .int .i64 0, .int .i64 0, .int .i64 0, .int .i64 0, .slice none 0 0]] ?_; (refine (sched_Dates.calls k 45670 45898 3 3 1 0 0 0 0 _ _ ([] : List (S63)) t751 t754 _ ?side1 ?side2 A1.out).mono ?_); (case side1 => exact Kd.C_nil _ _); (case side2 => exact Nat.le_refl _); rintro e w11 ⟨v752, rfl, ho0, hb⟩; refine ⟨_, rfl, ?_⟩; have HO753 := Aside0.mk (Kd.R_lower ho0 (below_size bB)); replace BK750 := Aside0.mk (blk_below (g := gb750) (o := .cells #[.int .i64 45670, .int .i64 45898, .int .i64 3, .int .i64 3, .int .i64 1, .int .i64 0, .int .i64 0, .int .i64 0, .int .i64 0, .slice none 0 0] 66 (0, 0)) (by (with_reducible repeat (first | refine blk_drewN ?_ _ | refine blk_drew ?_ | refine blk_alloc ?_ _)); refine blk_put (cs := #[.int .i64 45670, .int .i64 45898, .int .i64 3, .int .i64 3, .int .i64 1, .int .i64 0, .int .i64 0, .int .i64 0, .int .i64 0, .slice none 0 0]) ?_ 9 _ rfl; (with_reducible repeat (first | refine blk_drewN ?_ _ | refine blk_drew ?_ | refine blk_alloc ?_ _)); refine blk_put (cs := #[.int .i64 45670, .int .i64 45898, .int .i64 3, .int .i64 3, .int .i64 1, .int .i64 0, .int .i64 0, .int .i64 0, .int .i64 0, .slice none 0 0]) ?_ 8 _ rfl; (with_reducible repeat (first | refine blk_drewN ?_ _ | refine blk_drew ?_ | refine blk_alloc ?_ _)); refine blk_put (cs := #[.int .i64 45670, .int .i64 45898, .int .i64 3, .int .i64 3, .int .i64 1, .int .i64 0, .int .i64 0, .int .i64 0, .int .i64 0, .slice none 0 0]) ?_ 7 _ rfl; (with_reducible repeat (first | refine blk_drewN ?_ _ | refine blk_drew ?_ | refine blk_alloc ?_ _)); refine blk_put (cs := #[.int .i64 45670, .int .i64 45898, .int .i64 3, .int .i64 3, .int .i64 1, .int .i64 0, .int .i64 0, .int .i64 0, .int .i64 0, .slice none 0 0]) ?_ 6 _ rfl; (with_reducible repeat (first | refine blk_drewN ?_ _ | refine blk_drew ?_ | refine blk_alloc ?_ _)); refine blk_put (cs := #[.int .i64 45670, .int .i64 45898, .int .i64 3, .int .i64 3, .int .i64 1, .int .i64 0, .int .i64 0, .int .i64 0, .int .i64 0, .slice none 0 0]) ?_ 5 _ rfl; (with_reducible repeat (first | refine blk_drewN ?_ _ | refine blk_drew ?_ | refine blk_alloc ?_ _)); refine blk_put (cs := #[.int .i64 45670, .int .i64 45898, .int .i64 3, .int .i64 3, .int .i64 0, .int .i64 0, .int .i64 0, .int .i64 0, .int .i64 0, .slice none 0 0]) ?_ 4 _ rfl; (with_reducible repeat (first | refine blk_drewN ?_ _ | refine blk_drew ?_ | refine blk_alloc ?_ _)); refine blk_put (cs := #[.int .i64 45670, .int .i64 45898, .int .i64 3, .int .i64 0, .int .i64 0, .int .i64 0, .int .i64 0, .int .i64 0, .int .i64 0, .slice none 0 0]) ?_ 3 _ rfl; (with_reducible repeat (first | refine blk_drewN ?_ _ | refine blk_drew ?_ | refine blk_alloc ?_ _)); refine blk_put (cs := #[.int .i64 45670, .int .i64 45898, .int .i64 0, .int .i64 0, .int .i64 0, .int .i64 0, .int .i64 0, .int .i64 0, .int .i64 0, .slice none 0 0]) ?_ 2 _ rfl; (with_reducible repeat (first | refine blk_drewN ?_ _ | refine blk_drew ?_ | refine blk_alloc ?_ _)); refine blk_put (cs := #[.int .i64 45670, .int .i64 0, .int .i64 0, .int .i64 0, .int .i64 0, .int .i64 0, .int .i64 0, .int .i64 0, .int .i64 0, .slice none 0 0]) ?_ 1 _ rfl; (with_reducible repeat (first | refine blk_drewN ?_ _ | refine blk_drew ?_ | refine blk_alloc ?_ _)); refine blk_put (cs := #[.int .i64 0, .int .i64 0, .int .i64 0, .int .i64 0, .int .i64 0, .int .i64 0, .int .i64 0, .int .i64 0, .int .i64 0, .slice none 0 0]) ?_ 0 _ rfl; (with_reducible repeat (first | refine blk_drewN ?_ _ | refine blk_drew ?_ | refine blk_alloc ?_ _)); exact BK750.out) hb); replace HB := bS hb; (try clear hb); (try clear hb2); (try clear hk); (try clear hi); (try clear ho0); obtain ⟨_,_,_,_,_,_,_,_,_,_,_,_,_,_,_,_,_,_,_,_⟩ := blk10 BK750) | ((with_reducible refine gG 54 ?_); refine goA (some 14) Try.func54 #[.agg #[.int .i64 45670, .int .i64 45898, .int .i64 3, .int .i64 3, .int .i64 1, .int .i64 0, .int .i64 0, .int .i64 0, .int .i64 0, .slice none 0 0]] ?_; (refine (sched_Periods.calls k 45670 45898 3 3 1 0 0 0 0 _ _ ([] : List (S63)) t755 t758 _ ?side1 ?side2 A2.out).mono ?_); (case side1 => exact Kd.C_nil _ _); (case side2 => exact Nat.le_refl _); rintro e w13 ⟨v756, rfl, ho0, hb⟩; refine ⟨_, rfl, ?_⟩; replace HO753 := Aside0.mk (Kd.R_below (bR HO753) hb); have HO757 := Aside0.mk (Kd.R_lower ho0 (below_size bB)); replace BK750 := bK BK750 hb; replace HB := bS hb; (try clear hb); (try clear hb2); (try clear hk); (try clear hi); (try clear ho0)) | ((with_reducible refine gate_dst (N := 25) rfl ?_); (try (refine gate_guard (by rfl) ?_; dsimp only)); refine Kd.R_lit (Kd.int .i64) _ 3 ?hg (N := 25) ?hd (xs := ([45670, 45714, 45806, 45898] : List Int)) (inner := [.int .i64 45670, .int .i64 45714, .int .i64 45806, .int .i64 45898]) (ok := fun _ => True) (okp := fun _ => True) ?hr ?hp (fun _ hk => hk) trivial (Below.refl _ _) (Nat.le_refl _) (by simp) ?_; (case hd => rfl); (case hg => rfl); (case hr => first | (go_simp; done) | (go_simp; rfl)); (case hp => exact (Reps.one (show Kd.M (Kd.int .i64) _ _ _ 45670 [.int .i64 45670] from rfl) (Reps.one (show Kd.M (Kd.int .i64) _ _ _ 45714 [.int .i64 45714] from rfl) (Reps.one (show Kd.M (Kd.int .i64) _ _ _ 45806 [.int .i64 45806] from rfl) (Reps.one (show Kd.M (Kd.int .i64) _ _ _ 45898 [.int .i64 45898] from rfl) (Reps.none _ _)))))); intro v760 w14 ho15 hb hg_ hnew_; clear hg_ hnew_; (first | rw [← Ny759.out] at ho15 | (simp only [Int.reduceToNat] at ho15; rw [← Ny759.out] at ho15)); replace HO757 := Aside0.mk (Kd.R_below (bR HO757) hb); have HO761 := Aside0.mk (Kd.R_lower (Kd.R_new' ho15 (Kd.R_lt (bR HO753))) (below_size bB)); replace HO753 := Aside0.mk (Kd.R_elder' (bR HO753) (Kd.R_base ho15) hb); replace BK750 := bK BK750 hb; replace HB := bS hb; clear hb ho15; obtain ⟨Ao16, co16, eo16⟩ := Kd.R_slice HO753.out; subst eo16; obtain ⟨Ao17, co17, eo17⟩ := Kd.R_slice HO761.out; subst eo17) | (go_at_call 52; (with_reducible refine (tenorref8_SameInts.calls k _ _ t751 _ _ y759 true _ ?side1 ?side2 ?side3 ?side4 A5.out).mono ?_); (case side1 => exact sR HO753); (case side2 => exact (Kd.R_reads' HO753.out).2.1); (case side3 => exact sR HO761); (case side4 => exact (Kd.R_reads' HO761.out).2.1); rintro e w' ⟨rfl, ⟨nd, rfl⟩⟩; obtain ⟨Ao18, co18, eo18⟩ := Kd.R_slice HO757.out; subst eo18; have p763 : 0 ≤ (2 : Int) := (by omega); have q763 : 2 < (t755.length : Int) := of_decide_eq_true tA; obtain ⟨ad763, e763, hx763_0, hx763_1, hx763_2, hx763_3, hx763_4⟩ := at_T81 (Kd.R_reads' HO757.out).2.2 2 p763 q763; cases e763; (try simp only [show (2 : Int).toNat = 2 from rfl, Nat.reduceMul, Nat.reduceEqDiff, Go.Addr.add, ↓reduceIte] at hx763_0); (try simp only [show (2 : Int).toNat = 2 from rfl, Nat.reduceMul, Nat.reduceEqDiff, Go.Addr.add, ↓reduceIte] at hx763_1); (try simp only [show (2 : Int).toNat = 2 from rfl, Nat.reduceMul, Nat.reduceEqDiff, Go.Addr.add, ↓reduceIte] at hx763_2); (try simp only [show (2 : Int).toNat = 2 from rfl, Nat.reduceMul, Nat.reduceEqDiff, Go.Addr.add, ↓reduceIte] at hx763_3); (try simp only [show (2 : Int).toNat = 2 from rfl, Nat.reduceMul, Nat.reduceEqDiff, Go.Addr.add, ↓reduceIte] at hx763_4); have qi763 : (2 < t755.length) = True := eq_true (by omega); (try rw [show ((2 : Int)).toNat = 2 from rfl] at hx763_0); (try rw [show 2 * 5 = 10 from rfl] at hx763_0); (try rw [show ((2 : Int)).toNat = 2 from rfl] at hx763_1); (try rw [show 2 * 5 = 10 from rfl] at hx763_1); (try rw [show ((2 : Int)).toNat = 2 from rfl] at hx763_2); (try rw [show 2 * 5 = 10 from rfl] at hx763_2); (try rw [show ((2 : Int)).toNat = 2 from rfl] at hx763_3); (try rw [show 2 * 5 = 10 from rfl] at hx763_3); (try rw [show ((2 : Int)).toNat = 2 from rfl] at hx763_4); (try rw [show 2 * 5 = 10 from rfl] at hx763_4); replace p763 := eq_true p763; replace q763 := eq_true q763))
      go_ret
      exact ⟨eW, bB⟩
     ·
      rw [if_neg c8] at H
      exact absurd H (by simp)
    ·
     rw [if_neg c7] at H
     have c7b0 : ((t755.length : Int) == 3) = false := beq_eq_false_iff_ne.mpr c7
     have c7b1 : ((t755.length : Int) != 3) = true := bne_iff_ne.mpr c7
     exact absurd (H.trans (congrArg some HT)) (by decide)
   ·
    replace c6 := Bool.eq_false_iff.mpr c6;subst c6
    have H1 : (some false) = some r := by rw [if_neg (show ¬ (false = true) by decide)] at H; exact H
    clear H;have H := H1;clear H1
    exact absurd (H.trans (congrArg some HT)) (by decide)
  ·
   rw [if_neg c4] at H
   have c4b0 : (t758 == 0) = false := beq_eq_false_iff_ne.mpr c4
   have c4b1 : (t758 != 0) = true := bne_iff_ne.mpr c4
   exact absurd (H.trans (congrArg some HT)) (by decide)
 ·
  rw [if_neg c3] at H
  have c3b0 : (t754 == 0) = false := beq_eq_false_iff_ne.mpr c3
  have c3b1 : (t754 != 0) = true := bne_iff_ne.mpr c3
  exact absurd (H.trans (congrArg some HT)) (by decide)
end Go.Proofs.Ytoncignjcgjhhaa.Q
namespace Go.Proofs.Ytoncignjcgjhhaa.S
open Go.RowKit Go.Proofs.YtoncignjcgjhhaaW.PrintWords Go.Proofs.YtoncignjcgjhhaaW.PrintLast Go.Proofs.YtoncignjcgjhhaaW.PrintMore
open Go.Proofs.Ytoncignjcgjhhaa.Q
theorem awake8 : Ev (fun k => tenorlaw8_awake.f k) true := Ev.of (k := 40) (fun k => tenorlaw8_awake.mono k) (by decide +kernel)
end Go.Proofs.Ytoncignjcgjhhaa.S
namespace Go.Proofs.Ytoncignjcgjhhaa.Q
open Go.RowKit Go.Proofs.YtoncignjcgjhhaaW.PrintWords Go.Proofs.YtoncignjcgjhhaaW.PrintLast Go.Proofs.YtoncignjcgjhhaaW.PrintMore
attribute [local go_sem] max2_int min2_int max_two min_two max_three min_three max_four min_four   -- for this text's walks alone
def tenorlaw8_small.j0 : Nat → Bool → Int → Int → Int → Int → Int → Int → Int → Int → Int → List (S63) → Option (Bool)
  | 0, _, _, _, _, _, _, _, _, _, _, _ => none
  | k + 1, x35, x854000, x854001, x854002, x854003, x854004, x854005, x854006, x854007, x854008, x854009 => if x35 = true then (some true) else (if x854003 = 2 then (some (decide ((wrap64 (Int.tdiv (wrap64 (x854001 - x854000)) 7)) ≤ (wrap64 (60 * (mn x854002 2000)))))) else (if x854003 = 3 then (some (decide ((wrap64 (Int.tdiv (wrap64 (x854001 - x854000)) 28)) ≤ (wrap64 (60 * (mn x854002 2000)))))) else (if x854003 = 4 then (some (decide ((wrap64 (Int.tdiv (wrap64 (x854001 - x854000)) 365)) ≤ (wrap64 (60 * (mn x854002 2000)))))) else (some (decide ((wrap64 (Int.tdiv (wrap64 (x854001 - x854000)) 1)) ≤ (wrap64 (60 * (mn x854002 2000)))))))))
def tenorlaw8_small.f (k : Nat) (a0_0 a0_1 a0_2 a0_3 a0_4 a0_5 a0_6 a0_7 a0_8 : Int) (l0_9 : List (S63)) : Option (Bool) := if (l0_9.length : Int) > 8 then (some false) else (if (l0_9.length : Int) = 0 then (tenorlaw8_small.j0 k true a0_0 a0_1 a0_2 a0_3 a0_4 a0_5 a0_6 a0_7 a0_8 l0_9) else (if a0_2 < 1 then (tenorlaw8_small.j0 k true a0_0 a0_1 a0_2 a0_3 a0_4 a0_5 a0_6 a0_7 a0_8 l0_9) else (if a0_0 < 0 then (tenorlaw8_small.j0 k true a0_0 a0_1 a0_2 a0_3 a0_4 a0_5 a0_6 a0_7 a0_8 l0_9) else (if a0_1 > 109572 then (tenorlaw8_small.j0 k true a0_0 a0_1 a0_2 a0_3 a0_4 a0_5 a0_6 a0_7 a0_8 l0_9) else (tenorlaw8_small.j0 k (decide (a0_0 > a0_1)) a0_0 a0_1 a0_2 a0_3 a0_4 a0_5 a0_6 a0_7 a0_8 l0_9)))))
set_option maxHeartbeats 8000000 in
set_option maxRecDepth 100000 in
theorem tenorlaw8_small.calls (k : Nat) (a0_0 a0_1 a0_2 a0_3 a0_4 a0_5 a0_6 a0_7 a0_8 : Int) (A0_9 : Option Addr) (c0_9 : Nat) (l0_9 : List (S63)) (r : Bool) (w : World) (hr0_9 : Kd.C k63 w A0_9 l0_9.length l0_9) (hc0_9 : l0_9.length ≤ c0_9) (h : tenorlaw8_small.f k a0_0 a0_1 a0_2 a0_3 a0_4 a0_5 a0_6 a0_7 a0_8 l0_9 = some r) :
  Calls Try.prog 53 #[.agg #[.int .i64 a0_0, .int .i64 a0_1, .int .i64 a0_2, .int .i64 a0_3, .int .i64 a0_4, .int .i64 a0_5, .int .i64 a0_6, .int .i64 a0_7, .int .i64 a0_8, .slice A0_9 l0_9.length c0_9]] w fun e w' => e = .returned (.bool r) ∧ Below w.heap.size w w' := by
 have hu66 := Try.underlying66;have HR0_9 := Aside0.mk hr0_9;have HC0_9 := Aside0.mk hc0_9;clear hr0_9 hc0_9
 have HB := Aside0.mk (Below.refl w.heap.size w)
 have H : (if (l0_9.length : Int) > 8 then (some false) else (if (l0_9.length : Int) = 0 then (tenorlaw8_small.j0 k true a0_0 a0_1 a0_2 a0_3 a0_4 a0_5 a0_6 a0_7 a0_8 l0_9) else (if a0_2 < 1 then (tenorlaw8_small.j0 k true a0_0 a0_1 a0_2 a0_3 a0_4 a0_5 a0_6 a0_7 a0_8 l0_9) else (if a0_0 < 0 then (tenorlaw8_small.j0 k true a0_0 a0_1 a0_2 a0_3 a0_4 a0_5 a0_6 a0_7 a0_8 l0_9) else (if a0_1 > 109572 then (tenorlaw8_small.j0 k true a0_0 a0_1 a0_2 a0_3 a0_4 a0_5 a0_6 a0_7 a0_8 l0_9) else (tenorlaw8_small.j0 k (decide (a0_0 > a0_1)) a0_0 a0_1 a0_2 a0_3 a0_4 a0_5 a0_6 a0_7 a0_8 l0_9)))))) = some r := h
 clear h
 by_cases c2 : (l0_9.length : Int) > 8
 ·
  rw [if_pos c2] at H
  have c2b0 : decide (8 < (l0_9.length : Int)) = true := decide_eq_true c2
  have c2b1 : decide (8 < l0_9.length) = true := decide_eq_true (by omega)
  clear c2
  obtain rfl := Option.some.inj H
  go_enter Try.func53, Try.ntmps53
  go_wp2_with (first | ((with_reducible refine gate_dst (N := 1) rfl ?_); refine box_event ?hg (N := 1) ?hd (cs := #[.int .i64 a0_0, .int .i64 a0_1, .int .i64 a0_2, .int .i64 a0_3, .int .i64 a0_4, .int .i64 a0_5, .int .i64 a0_6, .int .i64 a0_7, .int .i64 a0_8, .slice A0_9 l0_9.length c0_9]) (t := 66) ?hr ?_; (case hd => rfl); (case hg => rfl); (case hr => first | (go_simp; done) | (go_simp; rfl)); intro gb853 hg w3 hbox hb; have BK853 := Aside0.mk (hbox); have GW853 := bG hg; have GE853 := bG hg; replace HB := bS hb; clear hb hbox hg; obtain ⟨hcz4_0,hcz4_1,hcz4_2,hcz4_3,hcz4_4,hcz4_5,hcz4_6,hcz4_7,hcz4_8,hcz4_9,hfz4_0,hfz4_1,hfz4_2,hfz4_3,hfz4_4,hfz4_5,hfz4_6,hfz4_7,hfz4_8,hfz4_9⟩ := blk10 BK853))
  repeat (go_quiet (first | ((with_reducible refine gate_dst (N := 1) rfl ?_); refine box_event ?hg (N := 1) ?hd (cs := #[.int .i64 a0_0, .int .i64 a0_1, .int .i64 a0_2, .int .i64 a0_3, .int .i64 a0_4, .int .i64 a0_5, .int .i64 a0_6, .int .i64 a0_7, .int .i64 a0_8, .slice A0_9 l0_9.length c0_9]) (t := 66) ?hr ?_; (case hd => rfl); (case hg => rfl); (case hr => first | (go_simp; done) | (go_simp; rfl)); intro gb853 hg w3 hbox hb; have BK853 := Aside0.mk (hbox); have GW853 := bG hg; have GE853 := bG hg; replace HB := bS hb; clear hb hbox hg; obtain ⟨hcz4_0,hcz4_1,hcz4_2,hcz4_3,hcz4_4,hcz4_5,hcz4_6,hcz4_7,hcz4_8,hcz4_9,hfz4_0,hfz4_1,hfz4_2,hfz4_3,hfz4_4,hfz4_5,hfz4_6,hfz4_7,hfz4_8,hfz4_9⟩ := blk10 BK853)); try go_wp2_with (first | ((with_reducible refine gate_dst (N := 1) rfl ?_); refine box_event ?hg (N := 1) ?hd (cs := #[.int .i64 a0_0, .int .i64 a0_1, .int .i64 a0_2, .int .i64 a0_3, .int .i64 a0_4, .int .i64 a0_5, .int .i64 a0_6, .int .i64 a0_7, .int .i64 a0_8, .slice A0_9 l0_9.length c0_9]) (t := 66) ?hr ?_; (case hd => rfl); (case hg => rfl); (case hr => first | (go_simp; done) | (go_simp; rfl)); intro gb853 hg w3 hbox hb; have BK853 := Aside0.mk (hbox); have GW853 := bG hg; have GE853 := bG hg; replace HB := bS hb; clear hb hbox hg; obtain ⟨hcz4_0,hcz4_1,hcz4_2,hcz4_3,hcz4_4,hcz4_5,hcz4_6,hcz4_7,hcz4_8,hcz4_9,hfz4_0,hfz4_1,hfz4_2,hfz4_3,hfz4_4,hfz4_5,hfz4_6,hfz4_7,hfz4_8,hfz4_9⟩ := blk10 BK853)))
  go_ret
  exact ⟨eW, bB⟩
 ·
  rw [if_neg c2] at H
  have c2b0 : decide (8 < (l0_9.length : Int)) = false := decide_eq_false c2
  have c2b1 : decide (8 < l0_9.length) = false := decide_eq_false (by omega)
  clear c2;have HC5 := Aside0.mk H;clear H
  go_enter Try.func53, Try.ntmps53
  go_upto_region 3 with (first | ((with_reducible refine gate_dst (N := 1) rfl ?_); refine box_event ?hg (N := 1) ?hd (cs := #[.int .i64 a0_0, .int .i64 a0_1, .int .i64 a0_2, .int .i64 a0_3, .int .i64 a0_4, .int .i64 a0_5, .int .i64 a0_6, .int .i64 a0_7, .int .i64 a0_8, .slice A0_9 l0_9.length c0_9]) (t := 66) ?hr ?_; (case hd => rfl); (case hg => rfl); (case hr => first | (go_simp; done) | (go_simp; rfl)); intro gb853 hg w6 hbox hb; have BK853 := Aside0.mk (hbox); have GW853 := bG hg; have GE853 := bG hg; replace HB := bS hb; clear hb hbox hg; obtain ⟨hcz7_0,hcz7_1,hcz7_2,hcz7_3,hcz7_4,hcz7_5,hcz7_6,hcz7_7,hcz7_8,hcz7_9,hfz7_0,hfz7_1,hfz7_2,hfz7_3,hfz7_4,hfz7_5,hfz7_6,hfz7_7,hfz7_8,hfz7_9⟩ := blk10 BK853))
  repeat (go_quiet (first | ((with_reducible refine gate_dst (N := 1) rfl ?_); refine box_event ?hg (N := 1) ?hd (cs := #[.int .i64 a0_0, .int .i64 a0_1, .int .i64 a0_2, .int .i64 a0_3, .int .i64 a0_4, .int .i64 a0_5, .int .i64 a0_6, .int .i64 a0_7, .int .i64 a0_8, .slice A0_9 l0_9.length c0_9]) (t := 66) ?hr ?_; (case hd => rfl); (case hg => rfl); (case hr => first | (go_simp; done) | (go_simp; rfl)); intro gb853 hg w6 hbox hb; have BK853 := Aside0.mk (hbox); have GW853 := bG hg; have GE853 := bG hg; replace HB := bS hb; clear hb hbox hg; obtain ⟨hcz7_0,hcz7_1,hcz7_2,hcz7_3,hcz7_4,hcz7_5,hcz7_6,hcz7_7,hcz7_8,hcz7_9,hfz7_0,hfz7_1,hfz7_2,hfz7_3,hfz7_4,hfz7_5,hfz7_6,hfz7_7,hfz7_8,hfz7_9⟩ := blk10 BK853)); go_upto_region 3 with (first | ((with_reducible refine gate_dst (N := 1) rfl ?_); refine box_event ?hg (N := 1) ?hd (cs := #[.int .i64 a0_0, .int .i64 a0_1, .int .i64 a0_2, .int .i64 a0_3, .int .i64 a0_4, .int .i64 a0_5, .int .i64 a0_6, .int .i64 a0_7, .int .i64 a0_8, .slice A0_9 l0_9.length c0_9]) (t := 66) ?hr ?_; (case hd => rfl); (case hg => rfl); (case hr => first | (go_simp; done) | (go_simp; rfl)); intro gb853 hg w6 hbox hb; have BK853 := Aside0.mk (hbox); have GW853 := bG hg; have GE853 := bG hg; replace HB := bS hb; clear hb hbox hg; obtain ⟨hcz7_0,hcz7_1,hcz7_2,hcz7_3,hcz7_4,hcz7_5,hcz7_6,hcz7_7,hcz7_8,hcz7_9,hfz7_0,hfz7_1,hfz7_2,hfz7_3,hfz7_4,hfz7_5,hfz7_6,hfz7_7,hfz7_8,hfz7_9⟩ := blk10 BK853)))
  (try simp only [Act.put, List.setIfInBounds_toArray, List.set_cons_zero, List.set_cons_succ])
  go_cut [35] (fun v35 wc => ∃ (kq : Nat) (x35_4 : Bool), v35 = .bool x35_4 ∧ Aside0 (tenorlaw8_small.j0 kq x35_4 a0_0 a0_1 a0_2 a0_3 a0_4 a0_5 a0_6 a0_7 a0_8 l0_9 = some r) ∧ Aside0 (kq ≤ k) ∧ Aside0 (wc.heap[gb853]? = some (.cells #[.int .i64 a0_0, .int .i64 a0_1, .int .i64 a0_2, .int .i64 a0_3, .int .i64 a0_4, .int .i64 a0_5, .int .i64 a0_6, .int .i64 a0_7, .int .i64 a0_8, (.slice A0_9 l0_9.length c0_9)] 66 (0, 0))) ∧ Aside0 (Below w.heap.size w wc))
  case first =>
   have H := HC5.out;clear HC5
   by_cases c8 : (l0_9.length : Int) = 0
   ·
    rw [if_pos c8] at H
    have c8b0 : ((l0_9.length : Int) == 0) = true := beq_iff_eq.mpr c8
    have c8b1 : ((l0_9.length : Int) != 0) = false := bne_eq_false_iff_eq.mpr c8
    clear c8
    (first | rw [c8b0] | (simp only [i64_w, i32_w]; rw [c8b0]) | skip)
    have H' := Aside0.mk H;clear H
    obtain ⟨_,_,_,_,_,_,_,_,_,_,_,_,_,_,_,_,_,_,_,_⟩ := blk10 BK853
    go_wp2
    repeat (go_quiet (fail); try go_wp2)
    go_meet
    case rel => exact ⟨_, (true), eS, H', ⟨eN⟩, ⟨(bk BK853)⟩, ⟨bB⟩⟩
   ·
    rw [if_neg c8] at H
    have c8b0 : ((l0_9.length : Int) == 0) = false := beq_eq_false_iff_ne.mpr c8
    have c8b1 : ((l0_9.length : Int) != 0) = true := bne_iff_ne.mpr c8
    have c8b2 : ¬ (l0_9 = []) := fun h_ => c8 (by rw [h_]; rfl)
    (first | rw [c8b0] | (simp only [i64_w, i32_w]; rw [c8b0]) | skip)
    by_cases c10 : a0_2 < 1
    ·
     rw [if_pos c10] at H
     have c10b0 : decide (a0_2 < 1) = true := decide_eq_true c10
     clear c10;have H' := Aside0.mk H;clear H
     obtain ⟨_,_,_,_,_,_,_,_,_,_,_,_,_,_,_,_,_,_,_,_⟩ := blk10 BK853
     go_wp2
     repeat (go_quiet (fail); try go_wp2)
     go_meet
     case rel => exact ⟨_, (true), eS, H', ⟨eN⟩, ⟨(bk BK853)⟩, ⟨bB⟩⟩
    ·
     rw [if_neg c10] at H
     have c10b0 : decide (a0_2 < 1) = false := decide_eq_false c10
     clear c10
     by_cases c12 : a0_0 < 0
     ·
      rw [if_pos c12] at H
      have c12b0 : decide (a0_0 < 0) = true := decide_eq_true c12
      clear c12;have H' := Aside0.mk H;clear H
      obtain ⟨_,_,_,_,_,_,_,_,_,_,_,_,_,_,_,_,_,_,_,_⟩ := blk10 BK853
      go_wp2
      repeat (go_quiet (fail); try go_wp2)
      go_meet
      case rel => exact ⟨_, (true), eS, H', ⟨eN⟩, ⟨(bk BK853)⟩, ⟨bB⟩⟩
     ·
      rw [if_neg c12] at H
      have c12b0 : decide (a0_0 < 0) = false := decide_eq_false c12
      clear c12
      by_cases c14 : a0_1 > 109572
      ·
       rw [if_pos c14] at H
       have c14b0 : decide (109572 < a0_1) = true := decide_eq_true c14
       clear c14;have H' := Aside0.mk H;clear H
       obtain ⟨_,_,_,_,_,_,_,_,_,_,_,_,_,_,_,_,_,_,_,_⟩ := blk10 BK853
       go_wp2
       repeat (go_quiet (fail); try go_wp2)
       go_meet
       case rel => exact ⟨_, (true), eS, H', ⟨eN⟩, ⟨(bk BK853)⟩, ⟨bB⟩⟩
      ·
       rw [if_neg c14] at H
       have c14b0 : decide (109572 < a0_1) = false := decide_eq_false c14
       clear c14;have H' := Aside0.mk H;clear H
       obtain ⟨_,_,_,_,_,_,_,_,_,_,_,_,_,_,_,_,_,_,_,_⟩ := blk10 BK853
       go_wp2
       repeat (go_quiet (fail); try go_wp2)
       go_meet
       case rel => exact ⟨_, (decide (a0_0 > a0_1)), eS, H', ⟨eN⟩, ⟨(bk BK853)⟩, ⟨bB⟩⟩
  case rest =>
   clear HC5
   obtain ⟨kq, x35_4, rfl, HA, HJ4, BK853, HB⟩ := hcut
   cases kq with
   | zero => exact absurd HA.out (by simp [tenorlaw8_small.j0])
   | succ kj4 =>
    have H := HA.out;clear HA
    simp only [tenorlaw8_small.j0] at H
    by_cases c17 : x35_4 = true
    ·
     subst c17
     have H1 : (some true) = some r := by rw [if_pos rfl] at H; exact H
     clear H;have H := H1;clear H1
     obtain rfl := Option.some.inj H
     go_wp2
     repeat (go_quiet (fail); try go_wp2)
     go_ret
     exact ⟨eW, bB⟩
    ·
     replace c17 := Bool.eq_false_iff.mpr c17;subst c17
     have H1 : (if a0_3 = 2 then (some (decide ((wrap64 (Int.tdiv (wrap64 (a0_1 - a0_0)) 7)) ≤ (wrap64 (60 * (mn a0_2 2000)))))) else (if a0_3 = 3 then (some (decide ((wrap64 (Int.tdiv (wrap64 (a0_1 - a0_0)) 28)) ≤ (wrap64 (60 * (mn a0_2 2000)))))) else (if a0_3 = 4 then (some (decide ((wrap64 (Int.tdiv (wrap64 (a0_1 - a0_0)) 365)) ≤ (wrap64 (60 * (mn a0_2 2000)))))) else (some (decide ((wrap64 (Int.tdiv (wrap64 (a0_1 - a0_0)) 1)) ≤ (wrap64 (60 * (mn a0_2 2000))))))))) = some r := by rw [if_neg (show ¬ (false = true) by decide)] at H; exact H
     clear H;have H := H1;clear H1
     by_cases c18 : a0_3 = 2
     ·
      rw [if_pos c18] at H
      have c18b0 : (a0_3 == 2) = true := beq_iff_eq.mpr c18
      have c18b1 : (a0_3 != 2) = false := bne_eq_false_iff_eq.mpr c18
      clear c18
      obtain ⟨ji19, hji19⟩ : ∃ j_ : Int, (mn a0_2 2000) = j_ := ⟨_, rfl⟩
      replace H : (some (decide ((wrap64 (Int.tdiv (wrap64 (a0_1 - a0_0)) 7)) ≤ (wrap64 (60 * (ji19)))))) = some r := by first | (rw [hji19] at H; exact H) | (simp only [hji19] at H ⊢; exact H)
      have hji19_ : (if 2000 < a0_2 then 2000 else a0_2) = ji19 := hji19
      obtain rfl := Option.some.inj H
      obtain ⟨_,_,_,_,_,_,_,_,_,_,_,_,_,_,_,_,_,_,_,_⟩ := blk10 BK853
      go_wp2
      repeat (go_quiet (fail); try go_wp2)
      go_ret
      exact ⟨by first | rfl | (simp [errW_none, errW_some] <;> rfl) | (simp only [← hji19]; first | rfl | (simp [errW_none, errW_some] <;> rfl)) | (simp [*, errW_none, errW_some] <;> rfl), bB⟩
     ·
      rw [if_neg c18] at H
      have c18b0 : (a0_3 == 2) = false := beq_eq_false_iff_ne.mpr c18
      have c18b1 : (a0_3 != 2) = true := bne_iff_ne.mpr c18
      by_cases c21 : a0_3 = 3
      ·
       rw [if_pos c21] at H
       have c21b0 : (a0_3 == 3) = true := beq_iff_eq.mpr c21
       have c21b1 : (a0_3 != 3) = false := bne_eq_false_iff_eq.mpr c21
       clear c21
       obtain ⟨ji22, hji22⟩ : ∃ j_ : Int, (mn a0_2 2000) = j_ := ⟨_, rfl⟩
       replace H : (some (decide ((wrap64 (Int.tdiv (wrap64 (a0_1 - a0_0)) 28)) ≤ (wrap64 (60 * (ji22)))))) = some r := by first | (rw [hji22] at H; exact H) | (simp only [hji22] at H ⊢; exact H)
       have hji22_ : (if 2000 < a0_2 then 2000 else a0_2) = ji22 := hji22
       obtain rfl := Option.some.inj H
       obtain ⟨_,_,_,_,_,_,_,_,_,_,_,_,_,_,_,_,_,_,_,_⟩ := blk10 BK853
       go_wp2
       repeat (go_quiet (fail); try go_wp2)
       go_ret
       exact ⟨by first | rfl | (simp [errW_none, errW_some] <;> rfl) | (simp only [← hji22]; first | rfl | (simp [errW_none, errW_some] <;> rfl)) | (simp [*, errW_none, errW_some] <;> rfl), bB⟩
      ·
       rw [if_neg c21] at H
       have c21b0 : (a0_3 == 3) = false := beq_eq_false_iff_ne.mpr c21
       have c21b1 : (a0_3 != 3) = true := bne_iff_ne.mpr c21
       by_cases c24 : a0_3 = 4
       ·
        rw [if_pos c24] at H
        have c24b0 : (a0_3 == 4) = true := beq_iff_eq.mpr c24
        have c24b1 : (a0_3 != 4) = false := bne_eq_false_iff_eq.mpr c24
        clear c24
        obtain ⟨ji25, hji25⟩ : ∃ j_ : Int, (mn a0_2 2000) = j_ := ⟨_, rfl⟩
        replace H : (some (decide ((wrap64 (Int.tdiv (wrap64 (a0_1 - a0_0)) 365)) ≤ (wrap64 (60 * (ji25)))))) = some r := by first | (rw [hji25] at H; exact H) | (simp only [hji25] at H ⊢; exact H)
        have hji25_ : (if 2000 < a0_2 then 2000 else a0_2) = ji25 := hji25
        obtain rfl := Option.some.inj H
        obtain ⟨_,_,_,_,_,_,_,_,_,_,_,_,_,_,_,_,_,_,_,_⟩ := blk10 BK853
        go_wp2
        repeat (go_quiet (fail); try go_wp2)
        go_ret
        exact ⟨by first | rfl | (simp [errW_none, errW_some] <;> rfl) | (simp only [← hji25]; first | rfl | (simp [errW_none, errW_some] <;> rfl)) | (simp [*, errW_none, errW_some] <;> rfl), bB⟩
       ·
        rw [if_neg c24] at H
        have c24b0 : (a0_3 == 4) = false := beq_eq_false_iff_ne.mpr c24
        have c24b1 : (a0_3 != 4) = true := bne_iff_ne.mpr c24
        obtain ⟨ji27, hji27⟩ : ∃ j_ : Int, (mn a0_2 2000) = j_ := ⟨_, rfl⟩
        replace H : (some (decide ((wrap64 (Int.tdiv (wrap64 (a0_1 - a0_0)) 1)) ≤ (wrap64 (60 * (ji27)))))) = some r := by first | (rw [hji27] at H; exact H) | (simp only [hji27] at H ⊢; exact H)
        have hji27_ : (if 2000 < a0_2 then 2000 else a0_2) = ji27 := hji27
        obtain rfl := Option.some.inj H
        obtain ⟨_,_,_,_,_,_,_,_,_,_,_,_,_,_,_,_,_,_,_,_⟩ := blk10 BK853
        go_wp2
        repeat (go_quiet (fail); try go_wp2)
        go_ret
        exact ⟨by first | rfl | (simp [errW_none, errW_some] <;> rfl) | (simp only [← hji27]; first | rfl | (simp [errW_none, errW_some] <;> rfl)) | (simp [*, errW_none, errW_some] <;> rfl), bB⟩
end Go.Proofs.Ytoncignjcgjhhaa.Q
