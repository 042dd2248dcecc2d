/- Contracts and facts of functions of the program (calendar, dates and their documents), joined in one text by a program of this session. No condition but what each theorem states. -/
import Derived.Test.YtoncignjcgjhhaaYGQ
import Derived.Test.YtoncignjcgjhhaaYGR
import Derived.Test.YtoncignjcgjhhaaYGN
import Derived.Test.YtoncignjcgjhhaaYGA
import Derived.Test.YtoncignjcgjhhaaYGK
import Derived.Test.YtoncignjcgjhhaaYGL
set_option linter.unusedVariables false
set_option linter.unusedSimpArgs false
namespace Go.Proofs.Ytoncignjcgjhhaa.S
open Go.RowKit Go.Proofs.YtoncignjcgjhhaaW.PrintWords Go.Proofs.YtoncignjcgjhhaaW.PrintLast Go.Proofs.YtoncignjcgjhhaaW.PrintMore
open Go.Proofs.Ytoncignjcgjhhaa.Q
open Go.Proofs.Ytoncignjcgjhhaa.L (w64 td tm tm0)
theorem rD_l1 (s : Sp) (b : Bool) (l : List Int) (hl : l.length ≤ 5000) : ∀ (f i : Nat), l.length - i = f → i ≤ l.length →
  Ev (fun q => tenorref8_Dates.l1 q b l (s.a :: (ordL b l).take i) (i : Int) s.a s.b s.n s.u s.st s.ro s.cv s.lag s.we s.l) (s.a :: ordL b l ++ [s.b], (0 : Int))
 | 0, i, hf, hi => by
  have c1 : ¬ (i : Int) < (l.length : Int) := by omega
  have e : (ordL b l).take i = ordL b l := List.take_of_length_le (by rw [ord_len]; omega)
  have c2 : (s.a :: ordL b l).length < 17592186044416 := by rw [List.length_cons, ord_len]; omega
  refine Ev.step (f := fun _ => some (s.a :: ordL b l ++ [s.b], (0 : Int))) (fun q => ?_) (Ev.now _)
  rw [tenorref8_Dates.l1, if_neg c1, e, if_pos c2]
 | f + 1, i, hf, hi => by
  have hlt : i < l.length := by omega
  have c1 : (i : Int) < (l.length : Int) := by omega
  have c0 : (0 : Int) ≤ (i : Int) := by omega
  have hw : wrap64 ((i : Int) + 1) = ((i + 1 : Nat) : Int) := by rw [w64 (by omega) (by omega)]; push_cast; rfl
  have hv : wrap64 (wrap64 ((l.length : Int) - 1) - (i : Int)) = (l.length : Int) - 1 - (i : Int) := by rw [w64 (x := (l.length : Int) - 1) (by omega) (by omega), w64 (by omega) (by omega)]
  have c2 : (s.a :: (ordL b l).take i).length < 17592186044416 := by rw [List.length_cons, List.length_take]; omega
  have c3 : (0 : Int) ≤ (l.length : Int) - 1 - (i : Int) := by omega
  have c4 : (l.length : Int) - 1 - (i : Int) < (l.length : Int) := by omega
  have hsn : (ordL b l).take i ++ [if b = true then rd l ((l.length : Int) - 1 - (i : Int)) else rd l (i : Int)] = (ordL b l).take (i + 1) := by
   rw [← ord_rd b l i hlt]; exact take_snoc _ i _
  refine Ev.step (fun q => ?_) (rD_l1 s b l hl f (i + 1) (by omega) (by omega))
  rw [tenorref8_Dates.l1, if_pos c1, hw, hv, ← hsn]
  cases b with
  | true => rw [if_pos rfl, if_pos c3, if_pos c4, if_pos c2, if_pos rfl]; rfl
  | false => rw [if_neg (by decide), if_pos c0, if_pos c2, if_neg (by decide)]; rfl
theorem rD_j5 (s : Sp) (b : Bool) (l : List Int) (hl : l.length ≤ 5000) : Ev (fun q => tenorref8_Dates.j5 q b l s.a s.b s.n s.u s.st s.ro s.cv s.lag s.we s.l) (s.a :: ordL b l ++ [s.b], (0 : Int)) := by
  have h := rD_l1 s b l hl l.length 0 (by omega) (by omega)
  exact Ev.step (fun q => by rw [tenorref8_Dates.j5]; rfl) h
theorem rD_j3 (s : Sp) (b e : Bool) (l : List Int) (hl : l.length ≤ 5000) : Ev (fun q => tenorref8_Dates.j3 q b l e s.a s.b s.n s.u s.st s.ro s.cv s.lag s.we s.l) (s.a :: ordL b (cutL s.long e l) ++ [s.b], (0 : Int)) := by
 have h6 : ∀ t : Bool, (t = true ↔ s.long = true ∧ e = false ∧ 0 < l.length) → Ev (fun q => tenorref8_Dates.j4 q b l t s.a s.b s.n s.u s.st s.ro s.cv s.lag s.we s.l) (s.a :: ordL b (cutL s.long e l) ++ [s.b], (0 : Int)) := by
  intro t ht
  cases t with
  | true =>
   have h := ht.1 rfl
   have hw : wrap64 ((l.length : Int) - 1) = (l.length : Int) - 1 := w64 (by omega) (by omega)
   have c1 : (0 : Int) ≤ (l.length : Int) - 1 := by omega
   have c2 : (l.length : Int) - 1 ≤ (l.length : Int) := by omega
   have e1 : ((l.length : Int) - 1).toNat = l.length - 1 := by omega
   have e2 : cutL s.long e l = l.take (l.length - 1) := if_pos h
   rw [e2]
   refine Ev.step (fun q => ?_) (rD_j5 s b (l.take (l.length - 1)) (by rw [List.length_take]; omega))
   rw [tenorref8_Dates.j4, if_pos rfl, hw, if_pos c1, if_pos c2, e1]
  | false =>
   have e2 : cutL s.long e l = l := if_neg (fun h => by have := ht.2 h; cases this)
   rw [e2]
   exact Ev.step (fun q => by rw [tenorref8_Dates.j4, if_neg (by decide)]) (rD_j5 s b l hl)
 have h5 : s.long = true → Ev (fun q => if e = true then tenorref8_Dates.j4 q b l false s.a s.b s.n s.u s.st s.ro s.cv s.lag s.we s.l else tenorref8_Dates.j4 q b l (decide ((l.length : Int) > 0)) s.a s.b s.n s.u s.st s.ro s.cv s.lag s.we s.l) (s.a :: ordL b (cutL s.long e l) ++ [s.b], (0 : Int)) := by
  intro hlg
  refine ev_ite (fun he => h6 false (by simp [he])) (fun he => h6 _ ?_)
  rw [decide_eq_true_iff]
  constructor
  ·
   intro h; exact ⟨hlg, Bool.eq_false_iff.2 he, by omega⟩
  ·
   intro h; have := h.2.2; omega
 refine Ev.step (fun q => by rw [tenorref8_Dates.j3]) (ev_ite (fun h2 => h5 (by unfold Sp.long; rw [decide_eq_true (Or.inl h2)])) (fun h2 => ev_ite (fun h4 => h5 (by unfold Sp.long; rw [decide_eq_true (Or.inr h4)])) (fun h4 => h6 false ?_)))
 have : s.long = false := decide_eq_false (fun h => h.elim h2 h4)
 rw [this]; simp
theorem rD_l0 (s : Sp) (hf : s.fit) (b : Bool) (x z d : Int) (hx : 0 ≤ x ∧ x ≤ 109572) (hd : d = 1 ∨ d = -1) (R : List Int × Int) : ∀ (f i : Nat) (acc : List Int), i + f = 1200 → acc.length = i →
  (match s.inn b x z d f i with | none => R = ([], 81) | some (l, e) => R = (s.a :: ordL b (cutL s.long e (acc ++ l)) ++ [s.b], 0)) → f ≠ 0 →
  Ev (fun q => tenorref8_Dates.l0 q b x z d acc ((i : Int) + 1) s.a s.b s.n s.u s.st s.ro s.cv s.lag s.we s.l) R
 | 0, i, acc, h1, h2, h3, h4 => absurd rfl h4
 | f + 1, i, acc, h1, h2, h3, _ => by
  have hp := rPoint s x (d * ((i : Int) + 1)) hf
  rw [if_pos hx] at hp
  have hw2 : wrap64 (((i : Int) + 1) * d) = d * ((i : Int) + 1) := by
   rw [Int.mul_comm]
   rcases hd with rfl | rfl <;> exact w64 (by omega) (by omega)
  have hs : ∀ q, tenorref8_Dates.l0 (q + 1) b x z d acc ((i : Int) + 1) s.a s.b s.n s.u s.st s.ro s.cv s.lag s.we s.l = _ := fun q => by rw [tenorref8_Dates.l0, hw2]
  refine Ev.step hs (Ev.bind hp ?_)
  clear hs
  rw [Sp.inn] at h3
  cases ho : s.pt x (d * ((i : Int) + 1)) with
  | none =>
   rw [ho] at h3
   simp only at h3
   rw [List.append_nil] at h3
   rw [h3]
   exact Ev.congr (fun q => if_neg (by decide)) (Ev.step (fun q => by rw [tenorref8_Dates.j2, if_pos rfl, show (told none).2 = false from rfl, if_neg (by decide)]) (rD_j3 s b false acc (by omega)))
  | some n =>
   rw [ho] at h3
   simp only at h3
   refine Ev.congr (fun q => if_pos rfl) ?_
   have hj2 : ∀ t : Bool, (t = true ↔ (n = z ∨ (if b = true then n < z else n > z))) → Ev (fun q => tenorref8_Dates.j2 q b x z d acc ((i : Int) + 1) n true t s.a s.b s.n s.u s.st s.ro s.cv s.lag s.we s.l) R := by
    intro t htt
    cases t with
    | true =>
     refine Ev.step (fun q => by rw [tenorref8_Dates.j2, if_pos rfl, if_pos rfl]) ?_
     by_cases hz : n = z
     ·
      rw [if_pos hz] at h3
      simp only at h3
      rw [List.append_nil] at h3
      rw [h3, beq_iff_eq.2 hz]
      exact rD_j3 s b true acc (by omega)
     ·
      rw [if_neg hz, if_pos ((htt.1 rfl).resolve_left hz)] at h3
      simp only at h3
      rw [List.append_nil] at h3
      rw [h3, beq_eq_false_iff_ne.2 hz]
      exact rD_j3 s b false acc (by omega)
    | false =>
     have hno : ¬ (n = z ∨ (if b = true then n < z else n > z)) := fun h => by have := htt.2 h; cases this
     rw [if_neg (fun h => hno (.inl h)), if_neg (fun h => hno (.inr h))] at h3
     have c6 : acc.length < 17592186044416 := by omega
     have e1 : (acc ++ [n]).length = i + 1 := by rw [List.length_append, h2]; rfl
     have hw3 : wrap64 (((acc ++ [n]).length : Int) + 1) = (i : Int) + 2 := by rw [e1, w64 (by omega) (by omega)]; omega
     have hs2 : ∀ q, tenorref8_Dates.j2 (q + 1) b x z d acc ((i : Int) + 1) n true false s.a s.b s.n s.u s.st s.ro s.cv s.lag s.we s.l = if (i : Int) + 2 > 1200 then some (([] : List Int), 81) else tenorref8_Dates.l0 q b x z d (acc ++ [n]) (wrap64 ((i : Int) + 1 + 1)) s.a s.b s.n s.u s.st s.ro s.cv s.lag s.we s.l := fun q => by
      rw [tenorref8_Dates.j2, if_neg (by decide), if_pos c6, Option.bind_some, hw3]
     refine Ev.step hs2 ?_
     by_cases c5 : 1200 < (i : Int) + 2
     ·
      rw [if_pos c5] at h3
      simp only at h3
      rw [h3]
      exact Ev.congr (fun q => if_pos c5) (Ev.now _)
     ·
      rw [if_neg c5] at h3
      have hw4 : wrap64 ((i : Int) + 1 + 1) = ((i + 1 : Nat) : Int) + 1 := by rw [w64 (by omega) (by omega)]; omega
      refine Ev.congr (fun q => by rw [if_neg c5, hw4]) (rD_l0 s hf b x z d hx hd R f (i + 1) (acc ++ [n]) (by omega) e1 ?_ (by omega))
      cases hi : s.inn b x z d f (i + 1) with
      | none => rw [hi] at h3; exact h3
      | some le => rw [hi] at h3; simpa using h3
   show Ev (fun q => if b = true then if n ≤ z then tenorref8_Dates.j2 q b x z d acc ((i : Int) + 1) n true true s.a s.b s.n s.u s.st s.ro s.cv s.lag s.we s.l else tenorref8_Dates.j2 q b x z d acc ((i : Int) + 1) n true false s.a s.b s.n s.u s.st s.ro s.cv s.lag s.we s.l else tenorref8_Dates.j2 q b x z d acc ((i : Int) + 1) n true (decide (n ≥ z)) s.a s.b s.n s.u s.st s.ro s.cv s.lag s.we s.l) R
   refine ev_ite (fun hb => ev_ite (fun c => hj2 true ?_) (fun c => hj2 false ?_)) (fun hb => hj2 _ ?_)
   ·
    rw [if_pos hb]; exact ⟨fun _ => by omega, fun _ => rfl⟩
   ·
    rw [if_pos hb]; exact ⟨fun h => (by cases h), fun h => by omega⟩
   ·
    rw [if_neg hb, decide_eq_true_iff]; omega
theorem rDates (s : Sp) : Ev (fun q => tenorref8_Dates.f q s.a s.b s.n s.u s.st s.ro s.cv s.lag s.we s.l) s.dates := by
 refine Ev.congr (fun q => by unfold tenorref8_Dates.f; rfl) (Ev.bind (rCheck s) ?_)
 unfold Sp.dates
 by_cases hc : s.chk = 0
 ·
  rw [if_pos hc]
  obtain ⟨hd, hf, _⟩ := chk_ok hc
  have hb : ∀ p : Prop, [Decidable p] → (p ↔ s.st ≤ 2) → decide p = s.back := fun p _ h => by unfold Sp.back; rw [decide_eq_decide]; exact h
  refine Ev.congr (fun q => if_pos hc) ?_
  unfold Sp.out
  by_cases h2 : s.st ≤ 2
  ·
   have hbk : s.back = true := decide_eq_true h2
   rw [hbk, if_pos rfl]
   refine Ev.congr (fun q => by rw [if_pos h2, decide_eq_true h2]) (Ev.step (fun q => by rw [tenorref8_Dates.j0]; rfl) (rD_l0 s hf true s.b s.a (-1) hd.2 (.inr rfl) _ 1200 0 [] rfl rfl ?_ (by decide)))
   cases s.inn true s.b s.a (-1) 1200 0 <;> rfl
  ·
   have hbk : s.back = false := decide_eq_false h2
   rw [hbk, if_neg (by decide)]
   refine Ev.congr (fun q => by rw [if_neg h2, decide_eq_false h2]) (Ev.step (fun q => by rw [tenorref8_Dates.j0]; rfl) (rD_l0 s hf false s.a s.b 1 hd.1 (.inl rfl) _ 1200 0 [] rfl rfl ?_ (by decide)))
   cases s.inn false s.a s.b 1 1200 0 <;> rfl
 ·
  rw [if_neg hc]
  exact Ev.congr (fun q => if_neg hc) (Ev.now _)
end Go.Proofs.Ytoncignjcgjhhaa.S
namespace Go.Proofs.Ytoncignjcgjhhaa.S
open Go.RowKit Go.Proofs.YtoncignjcgjhhaaW.PrintWords Go.Proofs.YtoncignjcgjhhaaW.PrintLast Go.Proofs.YtoncignjcgjhhaaW.PrintMore
open Go.Proofs.Ytoncignjcgjhhaa.Q
theorem awake8 : Ev (fun k => tenorlaw8_awake.f k) true := Ev.of (k := 40) (fun k => tenorlaw8_awake.mono k) (by decide +kernel)
end Go.Proofs.Ytoncignjcgjhhaa.S
namespace Go.Proofs.Ytoncignjcgjhhaa.Q
open Go.RowKit Go.Proofs.YtoncignjcgjhhaaW.PrintWords Go.Proofs.YtoncignjcgjhhaaW.PrintLast Go.Proofs.YtoncignjcgjhhaaW.PrintMore
attribute [local go_sem] max2_int min2_int max_two min_two max_three min_three max_four min_four   -- for this text's walks alone
def tenorlaw8_SchedDates.f (k : Nat) (a0_0 : Int) (a0_1 : Int) (a0_2 : Int) (a0_3 : Int) (a0_4 : Int) (a0_5 : Int) (a0_6 : Int) (a0_7 : Int) (a0_8 : Int) (l0_9 : List (S63)) : Option (Bool) := if (l0_9.length : Int) > 100 then ((tenorlaw8_awake.f k).bind fun t842 => (some t842)) else ((sched_Dates.f k a0_0 a0_1 a0_2 a0_3 a0_4 a0_5 a0_6 a0_7 a0_8 l0_9).bind fun bt843 => ((tenorref8_Dates.f k a0_0 a0_1 a0_2 a0_3 a0_4 a0_5 a0_6 a0_7 a0_8 l0_9).bind fun bt847 => ((tenorref8_SameInts.f k bt843.1 bt847.1).bind fun t851 => (if t851 = true then (if bt843.2 = bt847.2 then ((tenorlaw8_awake.f k).bind fun t852 => (some t852)) else (some false)) else (some false)))))
theorem tenorlaw8_SchedDates.mono : ∀ a0 a1 a2 a3 a4 a5 a6 a7 a8 a9 k, LeO (tenorlaw8_SchedDates.f k a0 a1 a2 a3 a4 a5 a6 a7 a8 a9) (tenorlaw8_SchedDates.f (k + 1) a0 a1 a2 a3 a4 a5 a6 a7 a8 a9) := by
 intro a0 a1 a2 a3 a4 a5 a6 a7 a8 a9 k
 unfold tenorlaw8_SchedDates.f
 repeat' first
   | (with_reducible exact sched_Dates.mono _ _ _ _ _ _ _ _ _ _ _)
   | (with_reducible exact tenorlaw8_awake.mono _)
   | (with_reducible exact tenorref8_Dates.mono _ _ _ _ _ _ _ _ _ _ _)
   | (with_reducible exact tenorref8_SameInts.mono _ _ _)
   | (with_reducible exact LeO.refl _)
   | (with_reducible exact LeO.none _)
   | (with_reducible refine LeO.ite ?_ ?_)
   | (with_reducible refine LeO.bind ?_ (fun _ => ?_))
   | exact sched_Dates.mono _ _ _ _ _ _ _ _ _ _ _
   | exact tenorlaw8_awake.mono _
   | exact tenorref8_Dates.mono _ _ _ _ _ _ _ _ _ _ _
   | exact tenorref8_SameInts.mono _ _ _
   | exact LeO.none _
   | refine LeO.ite ?_ ?_
   | refine LeO.bind ?_ (fun _ => ?_)
set_option maxHeartbeats 8000000 in
set_option maxRecDepth 100000 in
theorem tenorlaw8_SchedDates.calls (k : Nat) (a0_0 : Int) (a0_1 : Int) (a0_2 : Int) (a0_3 : Int) (a0_4 : Int) (a0_5 : Int) (a0_6 : Int) (a0_7 : Int) (a0_8 : Int) (A0_9 : Option Addr) (c0_9 : Nat) (l0_9 : List (S63)) (r : Bool) (w : World) (hr0_9 : Kd.C k63 w A0_9 l0_9.length l0_9) (hc0_9 : l0_9.length ≤ c0_9) (h : tenorlaw8_SchedDates.f k a0_0 a0_1 a0_2 a0_3 a0_4 a0_5 a0_6 a0_7 a0_8 l0_9 = some r) (HT : r = true) :
  Calls Try.prog 17 #[.agg #[.int .i64 a0_0, .int .i64 a0_1, .int .i64 a0_2, .int .i64 a0_3, .int .i64 a0_4, .int .i64 a0_5, .int .i64 a0_6, .int .i64 a0_7, .int .i64 a0_8, .slice A0_9 l0_9.length c0_9]] w fun e w' => e = .returned (.bool r) ∧ Below w.heap.size w w' := by
 have hu66 := Try.underlying66;have HR0_9 := Aside0.mk hr0_9;have HC0_9 := Aside0.mk hc0_9;clear hr0_9 hc0_9
 have HB := Aside0.mk (Below.refl w.heap.size w)
 have H : (if (l0_9.length : Int) > 100 then ((tenorlaw8_awake.f k).bind fun t842 => (some t842)) else ((sched_Dates.f k a0_0 a0_1 a0_2 a0_3 a0_4 a0_5 a0_6 a0_7 a0_8 l0_9).bind fun bt843 => ((tenorref8_Dates.f k a0_0 a0_1 a0_2 a0_3 a0_4 a0_5 a0_6 a0_7 a0_8 l0_9).bind fun bt847 => ((tenorref8_SameInts.f k bt843.1 bt847.1).bind fun t851 => (if t851 = true then (if bt843.2 = bt847.2 then ((tenorlaw8_awake.f k).bind fun t852 => (some t852)) else (some false)) else (some false)))))) = some r := h
 clear h
 by_cases c2 : (l0_9.length : Int) > 100
 ·
  rw [if_pos c2] at H
  have c2b0 : decide (100 < (l0_9.length : Int)) = true := decide_eq_true c2
  have c2b1 : decide (100 < l0_9.length) = true := decide_eq_true (by omega)
  clear c2;replace H := Option.bind_eq_some_iff.mp H
  obtain ⟨t842, A30, H⟩ := H
  replace H : (some t842) = some r := H
  have A3 := Aside0.mk A30;clear A30
  obtain rfl := Option.some.inj H
  go_enter Try.func17, Try.ntmps17
  go_wp2_with (first | ((with_reducible refine gate_dst (N := 1) rfl ?_); refine box_event ?hg (N := 1) ?hd (cs := #[.int .i64 a0_0, .int .i64 a0_1, .int .i64 a0_2, .int .i64 a0_3, .int .i64 a0_4, .int .i64 a0_5, .int .i64 a0_6, .int .i64 a0_7, .int .i64 a0_8, .slice A0_9 l0_9.length c0_9]) (t := 66) ?hr ?_; (case hd => rfl); (case hg => rfl); (case hr => first | (go_simp; done) | (go_simp; rfl)); intro gb841 hg w4 hbox hb; have n0_ := Aside0.mk (below_step (by repeat (first | (with_reducible first | exact HB.out | apply below_alloc | apply pw_below_drewN | apply below_drew1) | exact HB.out)) hb); have n1_ := Aside0.mk (hbox); have n2_ := Aside0.mk ((by rw [hg]; exact (below_size (by repeat (first | (with_reducible first | exact HB.out | apply below_alloc | apply pw_below_drewN | apply below_drew1) | exact HB.out))) : w.heap.size ≤ gb841)); have n3_ := Aside0.mk ((by rw [hg]; exact (below_size (by repeat (first | (with_reducible first | exact HB.out | apply below_alloc | apply pw_below_drewN | apply below_drew1) | exact HB.out))) : w.heap.size ≤ gb841)); clear HB; have HB := n0_; have BK841 := n1_; have GW841 := n2_; have GE841 := n3_; clear n0_ n1_ n2_ n3_; clear hb hbox hg; have hcz5_0 : w4.cell? ⟨gb841, 0, none⟩ = some (.int .i64 a0_0) := (blk_cell BK841.out 0).trans rfl; have hcz5_1 : w4.cell? ⟨gb841, 1, none⟩ = some (.int .i64 a0_1) := (blk_cell BK841.out 1).trans rfl; have hcz5_2 : w4.cell? ⟨gb841, 2, none⟩ = some (.int .i64 a0_2) := (blk_cell BK841.out 2).trans rfl; have hcz5_3 : w4.cell? ⟨gb841, 3, none⟩ = some (.int .i64 a0_3) := (blk_cell BK841.out 3).trans rfl; have hcz5_4 : w4.cell? ⟨gb841, 4, none⟩ = some (.int .i64 a0_4) := (blk_cell BK841.out 4).trans rfl; have hcz5_5 : w4.cell? ⟨gb841, 5, none⟩ = some (.int .i64 a0_5) := (blk_cell BK841.out 5).trans rfl; have hcz5_6 : w4.cell? ⟨gb841, 6, none⟩ = some (.int .i64 a0_6) := (blk_cell BK841.out 6).trans rfl; have hcz5_7 : w4.cell? ⟨gb841, 7, none⟩ = some (.int .i64 a0_7) := (blk_cell BK841.out 7).trans rfl; have hcz5_8 : w4.cell? ⟨gb841, 8, none⟩ = some (.int .i64 a0_8) := (blk_cell BK841.out 8).trans rfl; have hcz5_9 : w4.cell? ⟨gb841, 9, none⟩ = some (.slice A0_9 l0_9.length c0_9) := (blk_cell BK841.out 9).trans rfl; have hfz5_0 := blk_frozen BK841.out 0; have hfz5_1 := blk_frozen BK841.out 1; have hfz5_2 := blk_frozen BK841.out 2; have hfz5_3 := blk_frozen BK841.out 3; have hfz5_4 := blk_frozen BK841.out 4; have hfz5_5 := blk_frozen BK841.out 5; have hfz5_6 := blk_frozen BK841.out 6; have hfz5_7 := blk_frozen BK841.out 7; have hfz5_8 := blk_frozen BK841.out 8; have hfz5_9 := blk_frozen BK841.out 9) | ((with_reducible refine gate_callee (f := 49) rfl ?_); refine goesL_ (some 12) rfl rfl Try.func49 (by kernel_rfl) rfl #[] rfl (by (try simp only [List.map_toArray, List.map_cons, List.map_nil]); first | done | rfl | (simp only [List.length_drop, List.length_take]; rfl)) ?_; (with_reducible refine (tenorlaw8_awake.calls k  t842 _ A3.out).mono ?_); rintro e w6 ⟨rfl, hb⟩; refine ⟨_, rfl, ?_⟩; have n0_ := Aside0.mk (blk_below (g := gb841) (o := .cells #[.int .i64 a0_0, .int .i64 a0_1, .int .i64 a0_2, .int .i64 a0_3, .int .i64 a0_4, .int .i64 a0_5, .int .i64 a0_6, .int .i64 a0_7, .int .i64 a0_8, .slice A0_9 l0_9.length c0_9] 66 (0, 0)) (by (with_reducible repeat (first | refine blk_drewN ?_ _ | refine blk_drew ?_ | refine blk_alloc ?_ _)); exact BK841.out) hb); have n1_ := Aside0.mk (below_step (by repeat (first | (with_reducible first | exact HB.out | apply below_alloc | apply pw_below_drewN | apply below_drew1 | refine below_set ?_ GE841.out) | exact HB.out)) hb); clear BK841; clear HB; have BK841 := n0_; have HB := n1_; clear n0_ n1_; (try clear hb); (try clear hb2); (try clear hk); (try clear hi)))
  go_ret
  exact ⟨by first | rfl | (simp [errW_none, errW_some] <;> rfl) | (simp [*, errW_none, errW_some] <;> rfl), by repeat (first | (with_reducible first | exact HB.out | apply below_alloc | apply pw_below_drewN | apply below_drew1 | refine below_set ?_ GE841.out) | exact HB.out)⟩
 ·
  rw [if_neg c2] at H
  have c2b0 : decide (100 < (l0_9.length : Int)) = false := decide_eq_false c2
  have c2b1 : decide (100 < l0_9.length) = false := decide_eq_false (by omega)
  clear c2;replace H := Option.bind_eq_some_iff.mp H
  obtain ⟨⟨t843, t846⟩, A70, H⟩ := H
  replace H : ((tenorref8_Dates.f k a0_0 a0_1 a0_2 a0_3 a0_4 a0_5 a0_6 a0_7 a0_8 l0_9).bind fun bt847 => ((tenorref8_SameInts.f k t843 bt847.1).bind fun t851 => (if t851 = true then (if t846 = bt847.2 then ((tenorlaw8_awake.f k).bind fun t852 => (some t852)) else (some false)) else (some false)))) = some r := H
  have A7 := Aside0.mk A70;clear A70;replace H := Option.bind_eq_some_iff.mp H
  obtain ⟨⟨t847, t850⟩, A80, H⟩ := H
  replace H : ((tenorref8_SameInts.f k t843 t847).bind fun t851 => (if t851 = true then (if t846 = t850 then ((tenorlaw8_awake.f k).bind fun t852 => (some t852)) else (some false)) else (some false))) = some r := H
  have A8 := Aside0.mk A80;clear A80;replace H := Option.bind_eq_some_iff.mp H
  obtain ⟨t851, A90, H⟩ := H
  replace H : (if t851 = true then (if t846 = t850 then ((tenorlaw8_awake.f k).bind fun t852 => (some t852)) else (some false)) else (some false)) = some r := H
  have A9 := Aside0.mk A90;clear A90
  by_cases c10 : t851 = true
  ·
   subst c10
   have H1 : (if t846 = t850 then ((tenorlaw8_awake.f k).bind fun t852 => (some t852)) else (some false)) = some r := by rw [if_pos rfl] at H; exact H
   clear H;have H := H1;clear H1
   by_cases c11 : t846 = t850
   ·
    rw [if_pos c11] at H
    have c11b0 : (t846 == t850) = true := beq_iff_eq.mpr c11
    have c11b1 : (t846 != t850) = false := bne_eq_false_iff_eq.mpr c11
    clear c11;replace H := Option.bind_eq_some_iff.mp H
    obtain ⟨t852, A120, H⟩ := H
    replace H : (some t852) = some r := H
    have A12 := Aside0.mk A120;clear A120
    obtain rfl := Option.some.inj H
    go_enter Try.func17, Try.ntmps17
    go_wp2_with (first | ((with_reducible refine gate_dst (N := 1) rfl ?_); refine box_event ?hg (N := 1) ?hd (cs := #[.int .i64 a0_0, .int .i64 a0_1, .int .i64 a0_2, .int .i64 a0_3, .int .i64 a0_4, .int .i64 a0_5, .int .i64 a0_6, .int .i64 a0_7, .int .i64 a0_8, .slice A0_9 l0_9.length c0_9]) (t := 66) ?hr ?_; (case hd => rfl); (case hg => rfl); (case hr => first | (go_simp; done) | (go_simp; rfl)); intro gb841 hg w13 hbox hb; have n0_ := Aside0.mk (below_step (by repeat (first | (with_reducible first | exact HB.out | apply below_alloc | apply pw_below_drewN | apply below_drew1) | exact HB.out)) hb); have n1_ := Aside0.mk (hbox); have n2_ := Aside0.mk ((by rw [hg]; exact (below_size (by repeat (first | (with_reducible first | exact HB.out | apply below_alloc | apply pw_below_drewN | apply below_drew1) | exact HB.out))) : w.heap.size ≤ gb841)); have n3_ := Aside0.mk ((by rw [hg]; exact (below_size (by repeat (first | (with_reducible first | exact HB.out | apply below_alloc | apply pw_below_drewN | apply below_drew1) | exact HB.out))) : w.heap.size ≤ gb841)); clear HB; have HB := n0_; have BK841 := n1_; have GW841 := n2_; have GE841 := n3_; clear n0_ n1_ n2_ n3_; clear hb hbox hg; have hcz14_0 : w13.cell? ⟨gb841, 0, none⟩ = some (.int .i64 a0_0) := (blk_cell BK841.out 0).trans rfl; have hcz14_1 : w13.cell? ⟨gb841, 1, none⟩ = some (.int .i64 a0_1) := (blk_cell BK841.out 1).trans rfl; have hcz14_2 : w13.cell? ⟨gb841, 2, none⟩ = some (.int .i64 a0_2) := (blk_cell BK841.out 2).trans rfl; have hcz14_3 : w13.cell? ⟨gb841, 3, none⟩ = some (.int .i64 a0_3) := (blk_cell BK841.out 3).trans rfl; have hcz14_4 : w13.cell? ⟨gb841, 4, none⟩ = some (.int .i64 a0_4) := (blk_cell BK841.out 4).trans rfl; have hcz14_5 : w13.cell? ⟨gb841, 5, none⟩ = some (.int .i64 a0_5) := (blk_cell BK841.out 5).trans rfl; have hcz14_6 : w13.cell? ⟨gb841, 6, none⟩ = some (.int .i64 a0_6) := (blk_cell BK841.out 6).trans rfl; have hcz14_7 : w13.cell? ⟨gb841, 7, none⟩ = some (.int .i64 a0_7) := (blk_cell BK841.out 7).trans rfl; have hcz14_8 : w13.cell? ⟨gb841, 8, none⟩ = some (.int .i64 a0_8) := (blk_cell BK841.out 8).trans rfl; have hcz14_9 : w13.cell? ⟨gb841, 9, none⟩ = some (.slice A0_9 l0_9.length c0_9) := (blk_cell BK841.out 9).trans rfl; have hfz14_0 := blk_frozen BK841.out 0; have hfz14_1 := blk_frozen BK841.out 1; have hfz14_2 := blk_frozen BK841.out 2; have hfz14_3 := blk_frozen BK841.out 3; have hfz14_4 := blk_frozen BK841.out 4; have hfz14_5 := blk_frozen BK841.out 5; have hfz14_6 := blk_frozen BK841.out 6; have hfz14_7 := blk_frozen BK841.out 7; have hfz14_8 := blk_frozen BK841.out 8; have hfz14_9 := blk_frozen BK841.out 9) | ((with_reducible refine gate_callee (f := 50) rfl ?_); refine goesL_ (some 15) rfl rfl Try.func50 (by kernel_rfl) rfl #[.agg #[.int .i64 a0_0, .int .i64 a0_1, .int .i64 a0_2, .int .i64 a0_3, .int .i64 a0_4, .int .i64 a0_5, .int .i64 a0_6, .int .i64 a0_7, .int .i64 a0_8, .slice A0_9 l0_9.length c0_9]] rfl (by (try simp only [List.map_toArray, List.map_cons, List.map_nil]); first | done | rfl | (simp only [List.length_drop, List.length_take]; rfl)) ?_; (with_reducible refine (sched_Dates.calls k a0_0 a0_1 a0_2 a0_3 a0_4 a0_5 a0_6 a0_7 a0_8 _ _ l0_9 t843 t846 _ ?side1 ?side2 A7.out).mono ?_); (case side1 => repeat (first | exact (Kd.C_below HR0_9.out HB.out) | (with_reducible refine Kd.C_alloc ?_ _) | (with_reducible refine Kd.C_drewN ?_ _) | (with_reducible refine Kd.C_drew ?_))); (case side2 => exact HC0_9.out); rintro e w15 ⟨v844, rfl, ho0, hb⟩; refine ⟨_, rfl, ?_⟩; have n0_ := Aside0.mk (Kd.R_lower ho0 (below_size (by repeat (first | (with_reducible first | exact HB.out | apply below_alloc | apply pw_below_drewN | apply below_drew1 | refine below_set ?_ GE841.out) | exact HB.out)))); have n1_ := Aside0.mk (blk_below (g := gb841) (o := .cells #[.int .i64 a0_0, .int .i64 a0_1, .int .i64 a0_2, .int .i64 a0_3, .int .i64 a0_4, .int .i64 a0_5, .int .i64 a0_6, .int .i64 a0_7, .int .i64 a0_8, .slice A0_9 l0_9.length c0_9] 66 (0, 0)) (by (with_reducible repeat (first | refine blk_drewN ?_ _ | refine blk_drew ?_ | refine blk_alloc ?_ _)); exact BK841.out) hb); have n2_ := Aside0.mk (below_step (by repeat (first | (with_reducible first | exact HB.out | apply below_alloc | apply pw_below_drewN | apply below_drew1 | refine below_set ?_ GE841.out) | exact HB.out)) hb); clear BK841; clear HB; have HO845 := n0_; have BK841 := n1_; have HB := n2_; clear n0_ n1_ n2_; (try clear hb); (try clear hb2); (try clear hk); (try clear hi); (try clear ho0); have hcz16_0 : w15.cell? ⟨gb841, 0, none⟩ = some (.int .i64 a0_0) := (blk_cell BK841.out 0).trans rfl; have hcz16_1 : w15.cell? ⟨gb841, 1, none⟩ = some (.int .i64 a0_1) := (blk_cell BK841.out 1).trans rfl; have hcz16_2 : w15.cell? ⟨gb841, 2, none⟩ = some (.int .i64 a0_2) := (blk_cell BK841.out 2).trans rfl; have hcz16_3 : w15.cell? ⟨gb841, 3, none⟩ = some (.int .i64 a0_3) := (blk_cell BK841.out 3).trans rfl; have hcz16_4 : w15.cell? ⟨gb841, 4, none⟩ = some (.int .i64 a0_4) := (blk_cell BK841.out 4).trans rfl; have hcz16_5 : w15.cell? ⟨gb841, 5, none⟩ = some (.int .i64 a0_5) := (blk_cell BK841.out 5).trans rfl; have hcz16_6 : w15.cell? ⟨gb841, 6, none⟩ = some (.int .i64 a0_6) := (blk_cell BK841.out 6).trans rfl; have hcz16_7 : w15.cell? ⟨gb841, 7, none⟩ = some (.int .i64 a0_7) := (blk_cell BK841.out 7).trans rfl; have hcz16_8 : w15.cell? ⟨gb841, 8, none⟩ = some (.int .i64 a0_8) := (blk_cell BK841.out 8).trans rfl; have hcz16_9 : w15.cell? ⟨gb841, 9, none⟩ = some (.slice A0_9 l0_9.length c0_9) := (blk_cell BK841.out 9).trans rfl; have hfz16_0 := blk_frozen BK841.out 0; have hfz16_1 := blk_frozen BK841.out 1; have hfz16_2 := blk_frozen BK841.out 2; have hfz16_3 := blk_frozen BK841.out 3; have hfz16_4 := blk_frozen BK841.out 4; have hfz16_5 := blk_frozen BK841.out 5; have hfz16_6 := blk_frozen BK841.out 6; have hfz16_7 := blk_frozen BK841.out 7; have hfz16_8 := blk_frozen BK841.out 8; have hfz16_9 := blk_frozen BK841.out 9) | ((with_reducible refine gate_callee (f := 51) rfl ?_); refine goesL_ (some 20) rfl rfl Try.func51 (by kernel_rfl) rfl #[.agg #[.int .i64 a0_0, .int .i64 a0_1, .int .i64 a0_2, .int .i64 a0_3, .int .i64 a0_4, .int .i64 a0_5, .int .i64 a0_6, .int .i64 a0_7, .int .i64 a0_8, .slice A0_9 l0_9.length c0_9]] rfl (by (try simp only [List.map_toArray, List.map_cons, List.map_nil]); first | done | rfl | (simp only [List.length_drop, List.length_take]; rfl)) ?_; (with_reducible refine (tenorref8_Dates.calls k a0_0 a0_1 a0_2 a0_3 a0_4 a0_5 a0_6 a0_7 a0_8 _ _ l0_9 t847 t850 _ ?side1 ?side2 A8.out).mono ?_); (case side1 => repeat (first | exact (Kd.C_below HR0_9.out HB.out) | (with_reducible refine Kd.C_alloc ?_ _) | (with_reducible refine Kd.C_drewN ?_ _) | (with_reducible refine Kd.C_drew ?_))); (case side2 => exact HC0_9.out); rintro e w17 ⟨v848, rfl, ho0, hb⟩; refine ⟨_, rfl, ?_⟩; have n0_ := Aside0.mk (Kd.R_elder' (by (with_reducible repeat (first | apply Kd.R_alloc | apply Kd.R_drewN | apply Kd.R_drew)); exact HO845.out) (Kd.R_base ho0) hb); have n1_ := Aside0.mk (Kd.R_lower (Kd.R_new' ho0 (Kd.R_lt (by (with_reducible repeat (first | apply Kd.R_alloc | apply Kd.R_drewN | apply Kd.R_drew)); exact HO845.out))) (below_size (by repeat (first | (with_reducible first | exact HB.out | apply below_alloc | apply pw_below_drewN | apply below_drew1 | refine below_set ?_ GE841.out) | exact HB.out)))); have n2_ := Aside0.mk (blk_below (g := gb841) (o := .cells #[.int .i64 a0_0, .int .i64 a0_1, .int .i64 a0_2, .int .i64 a0_3, .int .i64 a0_4, .int .i64 a0_5, .int .i64 a0_6, .int .i64 a0_7, .int .i64 a0_8, .slice A0_9 l0_9.length c0_9] 66 (0, 0)) (by (with_reducible repeat (first | refine blk_drewN ?_ _ | refine blk_drew ?_ | refine blk_alloc ?_ _)); exact BK841.out) hb); have n3_ := Aside0.mk (below_step (by repeat (first | (with_reducible first | exact HB.out | apply below_alloc | apply pw_below_drewN | apply below_drew1 | refine below_set ?_ GE841.out) | exact HB.out)) hb); clear HO845; clear BK841; clear HB; have HO845 := n0_; have HO849 := n1_; have BK841 := n2_; have HB := n3_; clear n0_ n1_ n2_ n3_; (try clear hb); (try clear hb2); (try clear hk); (try clear hi); (try clear ho0); obtain ⟨Ao18, co18, eo18⟩ := Kd.R_slice HO845.out; subst eo18; obtain ⟨Ao19, co19, eo19⟩ := Kd.R_slice HO849.out; subst eo19) | ((with_reducible refine gate_callee (f := 52) rfl ?_); refine goesL_ (some 25) rfl rfl Try.func52 (by kernel_rfl) rfl #[.slice Ao18 t843.length co18, .slice Ao19 t847.length co19] rfl (by (try simp only [List.map_toArray, List.map_cons, List.map_nil]); first | done | rfl | (simp only [List.length_drop, List.length_take]; rfl)) ?_; (with_reducible refine (tenorref8_SameInts.calls k _ _ t843 _ _ t847 true _ ?side1 ?side2 ?side3 ?side4 A9.out).mono ?_); (case side1 => repeat (first | exact (Kd.R_reads' HO845.out).2.2 | (with_reducible refine Kd.C_alloc ?_ _) | (with_reducible refine Kd.C_drewN ?_ _) | (with_reducible refine Kd.C_drew ?_))); (case side2 => exact (Kd.R_reads' HO845.out).2.1); (case side3 => repeat (first | exact (Kd.R_reads' HO849.out).2.2 | (with_reducible refine Kd.C_alloc ?_ _) | (with_reducible refine Kd.C_drewN ?_ _) | (with_reducible refine Kd.C_drew ?_))); (case side4 => exact (Kd.R_reads' HO849.out).2.1); rintro e w' ⟨rfl, ⟨nd, rfl⟩⟩; refine ⟨_, rfl, ?_⟩) | (go_at_call 49; (with_reducible refine (tenorlaw8_awake.calls k  t852 _ A12.out).mono ?_); rintro e w20 ⟨rfl, hb⟩; have n0_ := Aside0.mk (Kd.R_below (by (with_reducible repeat (first | apply Kd.R_alloc | apply Kd.R_drewN | apply Kd.R_drew)); exact HO845.out) hb); have n1_ := Aside0.mk (Kd.R_below (by (with_reducible repeat (first | apply Kd.R_alloc | apply Kd.R_drewN | apply Kd.R_drew)); exact HO849.out) hb); have n2_ := Aside0.mk (blk_below (g := gb841) (o := .cells #[.int .i64 a0_0, .int .i64 a0_1, .int .i64 a0_2, .int .i64 a0_3, .int .i64 a0_4, .int .i64 a0_5, .int .i64 a0_6, .int .i64 a0_7, .int .i64 a0_8, .slice A0_9 l0_9.length c0_9] 66 (0, 0)) (by (with_reducible repeat (first | refine blk_drewN ?_ _ | refine blk_drew ?_ | refine blk_alloc ?_ _)); exact BK841.out) hb); have n3_ := Aside0.mk (below_step (by repeat (first | (with_reducible first | exact HB.out | apply below_alloc | apply pw_below_drewN | apply below_drew1 | refine below_set ?_ GE841.out) | exact HB.out)) hb); clear HO845; clear HO849; clear BK841; clear HB; have HO845 := n0_; have HO849 := n1_; have BK841 := n2_; have HB := n3_; clear n0_ n1_ n2_ n3_; (try clear hb); (try clear hb2); (try clear hk); (try clear hi)))
    go_ret
    exact ⟨by first | rfl | (simp [errW_none, errW_some] <;> rfl) | (simp [*, errW_none, errW_some] <;> rfl), by repeat (first | (with_reducible first | exact HB.out | apply below_alloc | apply pw_below_drewN | apply below_drew1 | refine below_set ?_ GE841.out) | exact HB.out)⟩
   ·
    rw [if_neg c11] at H
    have c11b0 : (t846 == t850) = false := beq_eq_false_iff_ne.mpr c11
    have c11b1 : (t846 != t850) = true := bne_iff_ne.mpr c11
    exact absurd (H.trans (congrArg some HT)) (by decide)
  ·
   replace c10 := Bool.eq_false_iff.mpr c10;subst c10
   have H1 : (some false) = some r := by rw [if_neg (show ¬ (false = true) by decide)] at H; exact H
   clear H;have H := H1;clear H1
   exact absurd (H.trans (congrArg some HT)) (by decide)
end Go.Proofs.Ytoncignjcgjhhaa.Q
