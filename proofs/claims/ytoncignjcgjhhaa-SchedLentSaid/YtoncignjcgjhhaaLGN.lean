/- Contracts and facts of functions of the program (calendar, dates and their documents), joined in one text by a program of this session. No condition but what each theorem states. -/
import Derived.Test.YtoncignjcgjhhaaLGA
import Derived.Test.YtoncignjcgjhhaaLGM
import Derived.Test.YtoncignjcgjhhaaLGI
import Derived.Test.YtoncignjcgjhhaaLGG
import Derived.Test.YtoncignjcgjhhaaLGJ
import Derived.Test.YtoncignjcgjhhaaLGD
set_option linter.unusedVariables false
set_option linter.unusedSimpArgs false
namespace Go.Proofs.Ytoncignjcgjhhaa.Q
open Go.RowKit Go.Proofs.YtoncignjcgjhhaaW.PrintWords Go.Proofs.YtoncignjcgjhhaaW.PrintLast Go.Proofs.YtoncignjcgjhhaaW.PrintMore
attribute [local go_sem] max2_int min2_int max_two min_two max_three min_three max_four min_four   -- for this text's walks alone
def tenorref6_asked.f (k : Nat) (a0_0 : Int) (l0_1 : List (S63)) (a1 : Int) : Option (Int) := (tenorref6_Check.f k a0_0 l0_1).bind fun bt493 => (if bt493.1 = 0 then ((tenorref6_isDay.f a1).bind fun t495 => (if t495 = true then (some 0) else (some 51))) else (some bt493.1))
set_option maxHeartbeats 8000000 in
set_option maxRecDepth 100000 in
theorem tenorref6_asked.calls (k : Nat) (a0_0 : Int) (A0_1 : Option Addr) (c0_1 : Nat) (l0_1 : List (S63)) (a1 r : Int) (w : World) (hr0_1 : Kd.C k63 w A0_1 l0_1.length l0_1) (hc0_1 : l0_1.length ≤ c0_1) (h : tenorref6_asked.f k a0_0 l0_1 a1 = some r) :
  Calls Try.prog 73 #[.agg #[.int .i64 a0_0, .slice A0_1 l0_1.length c0_1], .int .i64 a1] w fun e w' => e = .returned (.int .i64 r) ∧ Below w.heap.size w w' := by
 have hu24 := Try.underlying24;have HR0_1 := Aside0.mk hr0_1;have HC0_1 := Aside0.mk hc0_1;clear hr0_1 hc0_1
 have HB := Aside0.mk (Below.refl w.heap.size w)
 have H : ((tenorref6_Check.f k a0_0 l0_1).bind fun bt493 => (if bt493.1 = 0 then ((tenorref6_isDay.f a1).bind fun t495 => (if t495 = true then (some 0) else (some 51))) else (some bt493.1))) = some r := h
 clear h;replace H := Option.bind_eq_some_iff.mp H
 obtain ⟨⟨t493, t494⟩, A30, H⟩ := H
 replace H : (if t493 = 0 then ((tenorref6_isDay.f a1).bind fun t495 => (if t495 = true then (some 0) else (some 51))) else (some t493)) = some r := H
 have A3 := Aside0.mk A30;clear A30
 by_cases c4 : t493 = 0
 ·
  rw [if_pos c4] at H
  have c4b0 : (t493 == 0) = true := beq_iff_eq.mpr c4
  have c4b1 : (t493 != 0) = false := bne_eq_false_iff_eq.mpr c4
  clear c4;replace H := Option.bind_eq_some_iff.mp H
  obtain ⟨t495, A50, H⟩ := H
  replace H : (if t495 = true then (some 0) else (some 51)) = some r := H
  have A5 := Aside0.mk A50;clear A50
  by_cases c6 : t495 = true
  ·
   subst c6
   have H1 : (some 0) = some r := by rw [if_pos rfl] at H; exact H
   clear H;have H := H1;clear H1
   obtain rfl := Option.some.inj H
   go_enter Try.func73, Try.ntmps73
   go_wp2_with (first | ((with_reducible refine gate_dst (N := 2) rfl ?_); refine box_event ?hg (N := 2) ?hd (cs := #[.int .i64 a0_0, .slice A0_1 l0_1.length c0_1]) (t := 24) ?hr ?_; (case hd => rfl); (case hg => rfl); (case hr => first | (go_simp; done) | (go_simp; rfl)); intro gb492 hg w7 hbox hb; have BK492 := Aside0.mk (hbox); have GW492 := bG hg; have GE492 := bG hg; replace HB := bS hb; clear hb hbox hg; obtain ⟨_,_,_,_⟩ := blk2 BK492) | ((with_reducible refine gG 45 ?_); refine goA (some 9) Try.func45 #[.agg #[.int .i64 a0_0, .slice A0_1 l0_1.length c0_1]] ?_; (with_reducible refine (tenorref6_Check.calls k a0_0 _ _ l0_1 t493 t494 _ ?side1 ?side2 A3.out).mono ?_); (case side1 => exact sC HR0_1); (case side2 => exact HC0_1.out); rintro e w9 ⟨rfl, hb⟩; refine ⟨_, rfl, ?_⟩; replace BK492 := bK BK492 hb; replace HB := bS hb; (try clear hb); (try clear hb2); (try clear hk); (try clear hi)) | ((with_reducible refine gG 80 ?_); refine goA (some 16) Try.func80 #[.int .i64 a1] ?_; (with_reducible refine (tenorref6_isDay.calls a1 true _ A5.out).mono ?_); rintro e w' ⟨rfl, ⟨nd, rfl⟩⟩; refine ⟨_, rfl, ?_⟩))
   go_ret
   exact ⟨eW, bB⟩
  ·
   replace c6 := Bool.eq_false_iff.mpr c6;subst c6
   have H1 : (some 51) = some r := by rw [if_neg (show ¬ (false = true) by decide)] at H; exact H
   clear H;have H := H1;clear H1
   obtain rfl := Option.some.inj H
   go_enter Try.func73, Try.ntmps73
   go_wp2_with (first | ((with_reducible refine gate_dst (N := 2) rfl ?_); refine box_event ?hg (N := 2) ?hd (cs := #[.int .i64 a0_0, .slice A0_1 l0_1.length c0_1]) (t := 24) ?hr ?_; (case hd => rfl); (case hg => rfl); (case hr => first | (go_simp; done) | (go_simp; rfl)); intro gb492 hg w10 hbox hb; have BK492 := Aside0.mk (hbox); have GW492 := bG hg; have GE492 := bG hg; replace HB := bS hb; clear hb hbox hg; obtain ⟨_,_,_,_⟩ := blk2 BK492) | ((with_reducible refine gG 45 ?_); refine goA (some 9) Try.func45 #[.agg #[.int .i64 a0_0, .slice A0_1 l0_1.length c0_1]] ?_; (with_reducible refine (tenorref6_Check.calls k a0_0 _ _ l0_1 t493 t494 _ ?side1 ?side2 A3.out).mono ?_); (case side1 => exact sC HR0_1); (case side2 => exact HC0_1.out); rintro e w12 ⟨rfl, hb⟩; refine ⟨_, rfl, ?_⟩; replace BK492 := bK BK492 hb; replace HB := bS hb; (try clear hb); (try clear hb2); (try clear hk); (try clear hi)) | ((with_reducible refine gG 80 ?_); refine goA (some 16) Try.func80 #[.int .i64 a1] ?_; (with_reducible refine (tenorref6_isDay.calls a1 false _ A5.out).mono ?_); rintro e w' ⟨rfl, ⟨nd, rfl⟩⟩; refine ⟨_, rfl, ?_⟩))
   go_ret
   exact ⟨eW, bB⟩
 ·
  rw [if_neg c4] at H
  have c4b0 : (t493 == 0) = false := beq_eq_false_iff_ne.mpr c4
  have c4b1 : (t493 != 0) = true := bne_iff_ne.mpr c4
  obtain rfl := Option.some.inj H
  go_enter Try.func73, Try.ntmps73
  go_wp2_with (first | ((with_reducible refine gate_dst (N := 2) rfl ?_); refine box_event ?hg (N := 2) ?hd (cs := #[.int .i64 a0_0, .slice A0_1 l0_1.length c0_1]) (t := 24) ?hr ?_; (case hd => rfl); (case hg => rfl); (case hr => first | (go_simp; done) | (go_simp; rfl)); intro gb492 hg w13 hbox hb; have BK492 := Aside0.mk (hbox); have GW492 := bG hg; have GE492 := bG hg; replace HB := bS hb; clear hb hbox hg; obtain ⟨_,_,_,_⟩ := blk2 BK492) | ((with_reducible refine gG 45 ?_); refine goA (some 9) Try.func45 #[.agg #[.int .i64 a0_0, .slice A0_1 l0_1.length c0_1]] ?_; (with_reducible refine (tenorref6_Check.calls k a0_0 _ _ l0_1 t493 t494 _ ?side1 ?side2 A3.out).mono ?_); (case side1 => exact sC HR0_1); (case side2 => exact HC0_1.out); rintro e w15 ⟨rfl, hb⟩; refine ⟨_, rfl, ?_⟩; replace BK492 := bK BK492 hb; replace HB := bS hb; (try clear hb); (try clear hb2); (try clear hk); (try clear hi)))
  go_ret
  exact ⟨eW, bB⟩
end Go.Proofs.Ytoncignjcgjhhaa.Q
namespace Go.Proofs.Ytoncignjcgjhhaa.R
open Go.RowKit Go.Proofs.YtoncignjcgjhhaaW.PrintWords Go.Proofs.YtoncignjcgjhhaaW.PrintLast Go.Proofs.YtoncignjcgjhhaaW.PrintMore
open Go.Proofs.Ytoncignjcgjhhaa.Q
open Go.Proofs.Ytoncignjcgjhhaa.L (w64 td tm tm0)
theorem isDay (n : Int) : tenorref6_isDay.f n = some (decide (M.isDay n)) := by
  unfold tenorref6_isDay.f; rw [in_]; rfl
theorem asked (we : Int) (l : List S63) (n : Int) : Ev (fun k => tenorref6_asked.f k we l n) (if (M.chk we (l.map H.ru)).1 = 0 then (if M.isDay n then 0 else 51) else (M.chk we (l.map H.ru)).1) := by
 refine Ev.congr (fun k => rfl) (Ev.bind (f := fun _ (t : Int × Int) => if t.1 = 0 then ((tenorref6_isDay.f n).bind fun s => if s = true then some 0 else some 51) else some t.1) (Check we l) ?_)
 by_cases h : (M.chk we (l.map H.ru)).1 = 0
 ·
  rw [if_pos h, if_pos h, isDay, Option.bind_some]
  by_cases hd : M.isDay n
  ·
   rw [if_pos hd, decide_eq_true hd, if_pos rfl]; exact Ev.now _
  ·
   rw [if_neg hd, decide_eq_false hd, if_neg (by decide)]; exact Ev.now _
 ·
  rw [if_neg h, if_neg h]; exact Ev.now _
theorem open_ {we : Int} {l : List S63} (h : (M.chk we (l.map H.ru)).1 = 0) (n : Int) (hn : M.isDay n) : Ev (fun k => tenorref6_open.f k we l n) (M.isOpen we (l.map H.ru) n) := by
 obtain ⟨h0, h1, h2, h3⟩ := mays h
 unfold M.isOpen
 cases ho : M.off we n with
 | true => exact Ev.congr (fun k => by unfold tenorref6_open.f; rw [off we n l h0 h1, ho]; rfl) (Ev.now _)
 | false =>
  refine Ev.congr (fun k => ?_) (Ev.bind (f := fun _ t => some (!t)) (holiday we l n h0 h1 h3 h2 hn) (Ev.now _))
  unfold tenorref6_open.f
  rw [off we n l h0 h1, ho]; rfl
end Go.Proofs.Ytoncignjcgjhhaa.R
namespace Go.Proofs.Ytoncignjcgjhhaa.Q
open Go.RowKit Go.Proofs.YtoncignjcgjhhaaW.PrintWords Go.Proofs.YtoncignjcgjhhaaW.PrintLast Go.Proofs.YtoncignjcgjhhaaW.PrintMore
attribute [local go_sem] max2_int min2_int max_two min_two max_three min_three max_four min_four   -- for this text's walks alone
def tenorref6_search.l0 : Nat → Int → Int → Int → List (S63) → Option (Int × Bool)
  | 0, _, _, _, _ => none
  | k + 1, x1, x2, x515000, x515001 => (tenorref6_isDay.f x1).bind fun t515 => (if t515 = true then ((tenorref6_open.f k x515000 x515001 x1).bind fun t516 => (if t516 = true then (some (x1, true)) else (tenorref6_search.l0 k (wrap64 (x1 + x2)) x2 x515000 x515001))) else (some (0, false)))
def tenorref6_search.f (k : Nat) (a0_0 : Int) (l0_1 : List (S63)) (a1 a2 : Int) : Option (Int × Bool) := tenorref6_search.l0 k a1 a2 a0_0 l0_1
set_option maxHeartbeats 8000000 in
set_option maxRecDepth 100000 in
theorem tenorref6_search.calls (k : Nat) (a0_0 : Int) (A0_1 : Option Addr) (c0_1 : Nat) (l0_1 : List (S63)) (a1 a2 r1 : Int) (r2 : Bool) (w : World) (hr0_1 : Kd.C k63 w A0_1 l0_1.length l0_1) (hc0_1 : l0_1.length ≤ c0_1) (h : tenorref6_search.f k a0_0 l0_1 a1 a2 = some (r1, r2)) :
  Calls Try.prog 81 #[.agg #[.int .i64 a0_0, .slice A0_1 l0_1.length c0_1], .int .i64 a1, .int .i64 a2] w fun e w' => e = .returned (.tuple #[.int .i64 r1, .bool r2]) ∧ Below w.heap.size w w' := by
 have hu24 := Try.underlying24;have HR0_1 := Aside0.mk hr0_1;have HC0_1 := Aside0.mk hc0_1;clear hr0_1 hc0_1
 have HB := Aside0.mk (Below.refl w.heap.size w)
 have H : (tenorref6_search.l0 k a1 a2 a0_0 l0_1) = some (r1, r2) := h
 clear h;have H' := Aside0.mk H;clear H
 go_enter Try.func81, Try.ntmps81
 go_wp2_with (first | ((with_reducible refine gate_dst (N := 3) rfl ?_); refine box_event ?hg (N := 3) ?hd (cs := #[.int .i64 a0_0, .slice A0_1 l0_1.length c0_1]) (t := 24) ?hr ?_; (case hd => rfl); (case hg => rfl); (case hr => first | (go_simp; done) | (go_simp; rfl)); intro gb514 hg w4 hbox hb; have BK514 := Aside0.mk (hbox); have GW514 := bG hg; have GE514 := bG hg; replace HB := bS hb; clear hb hbox hg))
 go_loopg [1] k (fun kq v1 w' => ∃ (x1_1 : Int), v1 = .int .i64 x1_1 ∧ Aside0 (tenorref6_search.l0 kq x1_1 a2 a0_0 l0_1 = some (r1, r2)) ∧ Aside0 (kq ≤ k) ∧ Aside0 (w'.heap[gb514]? = some (.cells #[.int .i64 a0_0, (.slice A0_1 l0_1.length c0_1)] 24 (0, 0))) ∧ Aside0 (Below w.heap.size w w'))
 case atStart => exact ⟨(a1), eS, H', ⟨Nat.le_refl _⟩, ⟨(bk BK514)⟩, ⟨bB⟩⟩
 case round =>
  clear H'
  obtain ⟨x1_1, rfl, HA, HK1, BK514, HB⟩ := hrel
  cases gk with
  | zero => exact absurd HA.out (by simp [tenorref6_search.l0])
  | succ k1 =>
   have H := HA.out;clear HA
   simp only [tenorref6_search.l0] at H
   replace H := Option.bind_eq_some_iff.mp H
   obtain ⟨t515, A50, H⟩ := H
   replace H : (if t515 = true then ((tenorref6_open.f k1 a0_0 l0_1 x1_1).bind fun t516 => (if t516 = true then (some (x1_1, true)) else (tenorref6_search.l0 k1 (wrap64 (x1_1 + a2)) a2 a0_0 l0_1))) else (some (0, false))) = some (r1, r2) := H
   have A5 := Aside0.mk A50;clear A50
   by_cases c6 : t515 = true
   ·
    subst c6
    have H1 : ((tenorref6_open.f k1 a0_0 l0_1 x1_1).bind fun t516 => (if t516 = true then (some (x1_1, true)) else (tenorref6_search.l0 k1 (wrap64 (x1_1 + a2)) a2 a0_0 l0_1))) = some (r1, r2) := by rw [if_pos rfl] at H; exact H
    clear H;have H := H1;clear H1;replace H := Option.bind_eq_some_iff.mp H
    obtain ⟨t516, A70, H⟩ := H
    replace H : (if t516 = true then (some (x1_1, true)) else (tenorref6_search.l0 k1 (wrap64 (x1_1 + a2)) a2 a0_0 l0_1)) = some (r1, r2) := H
    have A7 := Aside0.mk A70;clear A70
    by_cases c8 : t516 = true
    ·
     subst c8
     have H1 : (some (x1_1, true)) = some (r1, r2) := by rw [if_pos rfl] at H; exact H
     clear H;have H := H1;clear H1
     simp only [Option.some.injEq, Prod.mk.injEq] at H
     obtain ⟨rfl, rfl⟩ := H
     go_wp2_with (first | ((with_reducible refine gG 80 ?_); refine goA (some 9) Try.func80 #[.int .i64 x1_1] ?_; (with_reducible refine (tenorref6_isDay.calls x1_1 true _ A5.out).mono ?_); rintro e w' ⟨rfl, ⟨nd, rfl⟩⟩; refine ⟨_, rfl, ?_⟩; obtain ⟨_,_,_,_⟩ := blk2 BK514) | ((with_reducible refine gG 74 ?_); refine goA (some 12) Try.func74 #[.agg #[.int .i64 a0_0, .slice A0_1 l0_1.length c0_1], .int .i64 x1_1] ?_; (with_reducible refine (tenorref6_open.calls k1 a0_0 _ _ l0_1 x1_1 true _ ?side1 ?side2 A7.out).mono ?_); (case side1 => repeat (first | exact (Kd.C_below HR0_1.out bB) | (with_reducible refine Kd.C_alloc ?_ _) | (with_reducible refine Kd.C_drewN ?_ _) | (with_reducible refine Kd.C_drew ?_))); (case side2 => exact HC0_1.out); rintro e w10 ⟨rfl, hb⟩; refine ⟨_, rfl, ?_⟩; replace BK514 := bK BK514 hb; replace HB := bS hb; (try clear hb); (try clear hb2); (try clear hk); (try clear hi)))
     go_ret2
     exact ⟨eW, bB⟩
    ·
     replace c8 := Bool.eq_false_iff.mpr c8;subst c8
     have H1 : (tenorref6_search.l0 k1 (wrap64 (x1_1 + a2)) a2 a0_0 l0_1) = some (r1, r2) := by rw [if_neg (show ¬ (false = true) by decide)] at H; exact H
     clear H;have H := H1;clear H1;have H' := Aside0.mk H;clear H
     go_wp2_with (first | ((with_reducible refine gG 80 ?_); refine goA (some 9) Try.func80 #[.int .i64 x1_1] ?_; (with_reducible refine (tenorref6_isDay.calls x1_1 true _ A5.out).mono ?_); rintro e w' ⟨rfl, ⟨nd, rfl⟩⟩; refine ⟨_, rfl, ?_⟩; obtain ⟨_,_,_,_⟩ := blk2 BK514) | ((with_reducible refine gG 74 ?_); refine goA (some 12) Try.func74 #[.agg #[.int .i64 a0_0, .slice A0_1 l0_1.length c0_1], .int .i64 x1_1] ?_; (with_reducible refine (tenorref6_open.calls k1 a0_0 _ _ l0_1 x1_1 false _ ?side1 ?side2 A7.out).mono ?_); (case side1 => repeat (first | exact (Kd.C_below HR0_1.out bB) | (with_reducible refine Kd.C_alloc ?_ _) | (with_reducible refine Kd.C_drewN ?_ _) | (with_reducible refine Kd.C_drew ?_))); (case side2 => exact HC0_1.out); rintro e w12 ⟨rfl, hb⟩; refine ⟨_, rfl, ?_⟩; replace BK514 := bK BK514 hb; replace HB := bS hb; (try clear hb); (try clear hb2); (try clear hk); (try clear hi)))
     go_roundg k1
     case measure => have := HK1.out; omega
     case rel => exact ⟨(wrap64 (x1_1 + a2)), eS, H', ⟨by have := HK1.out; omega⟩, ⟨(bk BK514)⟩, ⟨bB⟩⟩
   ·
    replace c6 := Bool.eq_false_iff.mpr c6;subst c6
    have H1 : (some (0, false)) = some (r1, r2) := by rw [if_neg (show ¬ (false = true) by decide)] at H; exact H
    clear H;have H := H1;clear H1
    simp only [Option.some.injEq, Prod.mk.injEq] at H
    obtain ⟨rfl, rfl⟩ := H
    go_wp2_with (first | ((with_reducible refine gG 80 ?_); refine goA (some 9) Try.func80 #[.int .i64 x1_1] ?_; (with_reducible refine (tenorref6_isDay.calls x1_1 false _ A5.out).mono ?_); rintro e w' ⟨rfl, ⟨nd, rfl⟩⟩; refine ⟨_, rfl, ?_⟩))
    go_ret2
    exact ⟨eW, bB⟩
def tenorref6_month.f (k : Nat) (a0 : Int) : Option (Int) := (tenorref5_Civil.f k a0).bind fun bt517 => (some (wrap64 ((wrap64 (12 * bt517.1)) + bt517.2.1)))
set_option maxHeartbeats 8000000 in
set_option maxRecDepth 100000 in
theorem tenorref6_month.calls (k : Nat) (a0 r : Int) (w : World) (h : tenorref6_month.f k a0 = some r) :
  Calls Try.prog 82 #[.int .i64 a0] w fun e w' => e = .returned (.int .i64 r) ∧ Below w.heap.size w w' := by
 have hu115 := Try.underlying115
 have HB := Aside0.mk (Below.refl w.heap.size w)
 have H : ((tenorref5_Civil.f k a0).bind fun bt517 => (some (wrap64 ((wrap64 (12 * bt517.1)) + bt517.2.1)))) = some r := h
 clear h;replace H := Option.bind_eq_some_iff.mp H
 obtain ⟨⟨t517, t518, t519, t520⟩, A20, H⟩ := H
 replace H : (some (wrap64 ((wrap64 (12 * t517)) + t518))) = some r := H
 have A2 := Aside0.mk A20;clear A20
 obtain rfl := Option.some.inj H
 go_enter Try.func82, Try.ntmps82
 go_wp2_with (first | ((with_reducible refine gG 96 ?_); refine goA (some 7) Try.func96 #[.int .i64 a0] ?_; (with_reducible refine (tenorref5_Civil.calls k a0 t517 t518 t519 t520 _ A2.out).mono ?_); rintro e w3 ⟨rfl, hb⟩; refine ⟨_, rfl, ?_⟩; replace HB := bS hb; (try clear hb); (try clear hb2); (try clear hk); (try clear hi)) | ((with_reducible refine gate_dst (N := 3) rfl ?_); refine box_event ?hg (N := 3) ?hd (cs := #[.int .i64 0, .int .i64 0, .int .i64 0]) (t := 115) ?hr ?_; (case hd => rfl); (case hg => rfl); (case hr => first | (go_simp; done) | (go_simp; rfl)); intro gb521 hg w4 hbox hb; have BK521 := Aside0.mk (hbox); have GW521 := bG hg; have GE521 := bG hg; replace HB := bS hb; clear hb hbox hg; obtain ⟨_,_,_,_,_,_⟩ := blk3 BK521))
 go_ret
 exact ⟨eW, bB⟩
end Go.Proofs.Ytoncignjcgjhhaa.Q
namespace Go.Proofs.Ytoncignjcgjhhaa.Q
open Go.RowKit Go.Proofs.YtoncignjcgjhhaaW.PrintWords Go.Proofs.YtoncignjcgjhhaaW.PrintLast Go.Proofs.YtoncignjcgjhhaaW.PrintMore
attribute [local go_sem] max2_int min2_int max_two min_two max_three min_three max_four min_four   -- for this text's walks alone
mutual
def tenorref6_Adjust.j0 : Nat → Int → Int → Int → Bool → Int → List (S63) → Option (Int × Int)
  | 0, _, _, _, _, _, _ => none
  | k + 1, x1, x2, x10, x35, x523000, x523001 => if x35 = true then (tenorref6_Adjust.j1 k x1 x2 (-1) x523000 x523001) else (tenorref6_Adjust.j1 k x1 x2 x10 x523000 x523001)
def tenorref6_Adjust.j1 : Nat → Int → Int → Int → Int → List (S63) → Option (Int × Int)
  | 0, _, _, _, _, _ => none
  | k + 1, x1, x2, x10, x523000, x523001 => (tenorref6_search.f k x523000 x523001 x1 x10).bind fun bt527 => (if x2 = 3 then (if bt527.2 = true then ((tenorref6_month.f k bt527.1).bind fun t529 => ((tenorref6_month.f k x1).bind fun t530 => (tenorref6_Adjust.j2 k x1 x10 bt527.1 bt527.2 (t529 != t530) x523000 x523001))) else (tenorref6_Adjust.j2 k x1 x10 bt527.1 bt527.2 true x523000 x523001)) else (if x2 = 4 then (if bt527.2 = true then ((tenorref6_month.f k bt527.1).bind fun t531 => ((tenorref6_month.f k x1).bind fun t532 => (tenorref6_Adjust.j2 k x1 x10 bt527.1 bt527.2 (t531 != t532) x523000 x523001))) else (tenorref6_Adjust.j2 k x1 x10 bt527.1 bt527.2 true x523000 x523001)) else (tenorref6_Adjust.j2 k x1 x10 bt527.1 bt527.2 false x523000 x523001)))
def tenorref6_Adjust.j2 : Nat → Int → Int → Int → Bool → Bool → Int → List (S63) → Option (Int × Int)
  | 0, _, _, _, _, _, _, _ => none
  | k + 1, x1, x10, x11, x12, x59, x523000, x523001 => if x59 = true then ((tenorref6_search.f k x523000 x523001 x1 (wrap64 (-x10))).bind fun bt533 => (if bt533.2 = true then (some (bt533.1, 0)) else (some (0, 51)))) else (if x12 = true then (some (x11, 0)) else (some (0, 51)))
end
def tenorref6_Adjust.f (k : Nat) (a0_0 : Int) (l0_1 : List (S63)) (a1 a2 : Int) : Option (Int × Int) := (tenorref6_Check.f k a0_0 l0_1).bind fun bt523 => (if bt523.1 = 0 then ((tenorref6_in.f a2 0 4).bind fun t525 => (if t525 = true then ((tenorref6_isDay.f a1).bind fun t526 => (if t526 = true then (if a2 = 0 then (some (a1, 0)) else (if a2 = 2 then (tenorref6_Adjust.j0 k a1 a2 1 true a0_0 l0_1) else (tenorref6_Adjust.j0 k a1 a2 1 (a2 == 4) a0_0 l0_1))) else (some (0, 51)))) else (some (0, 90)))) else (some (0, bt523.1)))
set_option maxHeartbeats 8000000 in
set_option maxRecDepth 100000 in
theorem tenorref6_Adjust.calls (k : Nat) (a0_0 : Int) (A0_1 : Option Addr) (c0_1 : Nat) (l0_1 : List (S63)) (a1 a2 r1 r2 : Int) (w : World) (hr0_1 : Kd.C k63 w A0_1 l0_1.length l0_1) (hc0_1 : l0_1.length ≤ c0_1) (h : tenorref6_Adjust.f k a0_0 l0_1 a1 a2 = some (r1, r2)) :
  Calls Try.prog 39 #[.agg #[.int .i64 a0_0, .slice A0_1 l0_1.length c0_1], .int .i64 a1, .int .i64 a2] w fun e w' => e = .returned (.tuple #[.int .i64 r1, .int .i64 r2]) ∧ Below w.heap.size w w' := by
 have hu24 := Try.underlying24;have HR0_1 := Aside0.mk hr0_1;have HC0_1 := Aside0.mk hc0_1;clear hr0_1 hc0_1
 have HB := Aside0.mk (Below.refl w.heap.size w)
 have H : ((tenorref6_Check.f k a0_0 l0_1).bind fun bt523 => (if bt523.1 = 0 then ((tenorref6_in.f a2 0 4).bind fun t525 => (if t525 = true then ((tenorref6_isDay.f a1).bind fun t526 => (if t526 = true then (if a2 = 0 then (some (a1, 0)) else (if a2 = 2 then (tenorref6_Adjust.j0 k a1 a2 1 true a0_0 l0_1) else (tenorref6_Adjust.j0 k a1 a2 1 (a2 == 4) a0_0 l0_1))) else (some (0, 51)))) else (some (0, 90)))) else (some (0, bt523.1)))) = some (r1, r2) := h
 clear h;replace H := Option.bind_eq_some_iff.mp H
 obtain ⟨⟨t523, t524⟩, A40, H⟩ := H
 replace H : (if t523 = 0 then ((tenorref6_in.f a2 0 4).bind fun t525 => (if t525 = true then ((tenorref6_isDay.f a1).bind fun t526 => (if t526 = true then (if a2 = 0 then (some (a1, 0)) else (if a2 = 2 then (tenorref6_Adjust.j0 k a1 a2 1 true a0_0 l0_1) else (tenorref6_Adjust.j0 k a1 a2 1 (a2 == 4) a0_0 l0_1))) else (some (0, 51)))) else (some (0, 90)))) else (some (0, t523))) = some (r1, r2) := H
 have A4 := Aside0.mk A40;clear A40
 by_cases c5 : t523 = 0
 ·
  rw [if_pos c5] at H
  have c5b0 : (t523 == 0) = true := beq_iff_eq.mpr c5
  have c5b1 : (t523 != 0) = false := bne_eq_false_iff_eq.mpr c5
  clear c5;replace H := Option.bind_eq_some_iff.mp H
  obtain ⟨t525, A60, H⟩ := H
  replace H : (if t525 = true then ((tenorref6_isDay.f a1).bind fun t526 => (if t526 = true then (if a2 = 0 then (some (a1, 0)) else (if a2 = 2 then (tenorref6_Adjust.j0 k a1 a2 1 true a0_0 l0_1) else (tenorref6_Adjust.j0 k a1 a2 1 (a2 == 4) a0_0 l0_1))) else (some (0, 51)))) else (some (0, 90))) = some (r1, r2) := H
  have A6 := Aside0.mk A60;clear A60
  by_cases c7 : t525 = true
  ·
   subst c7
   have H1 : ((tenorref6_isDay.f a1).bind fun t526 => (if t526 = true then (if a2 = 0 then (some (a1, 0)) else (if a2 = 2 then (tenorref6_Adjust.j0 k a1 a2 1 true a0_0 l0_1) else (tenorref6_Adjust.j0 k a1 a2 1 (a2 == 4) a0_0 l0_1))) else (some (0, 51)))) = some (r1, r2) := by rw [if_pos rfl] at H; exact H
   clear H;have H := H1;clear H1;replace H := Option.bind_eq_some_iff.mp H
   obtain ⟨t526, A80, H⟩ := H
   replace H : (if t526 = true then (if a2 = 0 then (some (a1, 0)) else (if a2 = 2 then (tenorref6_Adjust.j0 k a1 a2 1 true a0_0 l0_1) else (tenorref6_Adjust.j0 k a1 a2 1 (a2 == 4) a0_0 l0_1))) else (some (0, 51))) = some (r1, r2) := H
   have A8 := Aside0.mk A80;clear A80
   by_cases c9 : t526 = true
   ·
    subst c9
    have H1 : (if a2 = 0 then (some (a1, 0)) else (if a2 = 2 then (tenorref6_Adjust.j0 k a1 a2 1 true a0_0 l0_1) else (tenorref6_Adjust.j0 k a1 a2 1 (a2 == 4) a0_0 l0_1))) = some (r1, r2) := by rw [if_pos rfl] at H; exact H
    clear H;have H := H1;clear H1
    by_cases c10 : a2 = 0
    ·
     rw [if_pos c10] at H
     have c10b0 : (a2 == 0) = true := beq_iff_eq.mpr c10
     have c10b1 : (a2 != 0) = false := bne_eq_false_iff_eq.mpr c10
     clear c10
     simp only [Option.some.injEq, Prod.mk.injEq] at H
     obtain ⟨rfl, rfl⟩ := H
     go_enter Try.func39, Try.ntmps39
     go_wp2_with (first | ((with_reducible refine gate_dst (N := 3) rfl ?_); refine box_event ?hg (N := 3) ?hd (cs := #[.int .i64 a0_0, .slice A0_1 l0_1.length c0_1]) (t := 24) ?hr ?_; (case hd => rfl); (case hg => rfl); (case hr => first | (go_simp; done) | (go_simp; rfl)); intro gb522 hg w11 hbox hb; have BK522 := Aside0.mk (hbox); have GW522 := bG hg; have GE522 := bG hg; replace HB := bS hb; clear hb hbox hg; obtain ⟨_,_,_,_⟩ := blk2 BK522) | ((with_reducible refine gG 45 ?_); refine goA (some 15) Try.func45 #[.agg #[.int .i64 a0_0, .slice A0_1 l0_1.length c0_1]] ?_; (with_reducible refine (tenorref6_Check.calls k a0_0 _ _ l0_1 t523 t524 _ ?side1 ?side2 A4.out).mono ?_); (case side1 => exact sC HR0_1); (case side2 => exact HC0_1.out); rintro e w13 ⟨rfl, hb⟩; refine ⟨_, rfl, ?_⟩; replace BK522 := bK BK522 hb; replace HB := bS hb; (try clear hb); (try clear hb2); (try clear hk); (try clear hi)) | ((with_reducible refine gG 79 ?_); refine goA (some 22) Try.func79 #[.int .i64 a2, .int .i64 0, .int .i64 4] ?_; (with_reducible refine (tenorref6_in.calls a2 0 4 true _ A6.out).mono ?_); rintro e w' ⟨rfl, ⟨nd, rfl⟩⟩; refine ⟨_, rfl, ?_⟩) | ((with_reducible refine gG 80 ?_); refine goA (some 25) Try.func80 #[.int .i64 a1] ?_; (with_reducible refine (tenorref6_isDay.calls a1 true _ A8.out).mono ?_); rintro e w' ⟨rfl, ⟨nd, rfl⟩⟩; refine ⟨_, rfl, ?_⟩))
     go_ret2
     exact ⟨eW, bB⟩
    ·
     rw [if_neg c10] at H
     have c10b0 : (a2 == 0) = false := beq_eq_false_iff_ne.mpr c10
     have c10b1 : (a2 != 0) = true := bne_iff_ne.mpr c10
     have HC14 := Aside0.mk H;clear H
     go_enter Try.func39, Try.ntmps39
     go_upto_region 11 with (first | ((with_reducible refine gate_dst (N := 3) rfl ?_); refine box_event ?hg (N := 3) ?hd (cs := #[.int .i64 a0_0, .slice A0_1 l0_1.length c0_1]) (t := 24) ?hr ?_; (case hd => rfl); (case hg => rfl); (case hr => first | (go_simp; done) | (go_simp; rfl)); intro gb522 hg w15 hbox hb; have BK522 := Aside0.mk (hbox); have GW522 := bG hg; have GE522 := bG hg; replace HB := bS hb; clear hb hbox hg; obtain ⟨_,_,_,_⟩ := blk2 BK522) | ((with_reducible refine gG 45 ?_); refine goA (some 15) Try.func45 #[.agg #[.int .i64 a0_0, .slice A0_1 l0_1.length c0_1]] ?_; (with_reducible refine (tenorref6_Check.calls k a0_0 _ _ l0_1 t523 t524 _ ?side1 ?side2 A4.out).mono ?_); (case side1 => exact sC HR0_1); (case side2 => exact HC0_1.out); rintro e w17 ⟨rfl, hb⟩; refine ⟨_, rfl, ?_⟩; replace BK522 := bK BK522 hb; replace HB := bS hb; (try clear hb); (try clear hb2); (try clear hk); (try clear hi)) | ((with_reducible refine gG 79 ?_); refine goA (some 22) Try.func79 #[.int .i64 a2, .int .i64 0, .int .i64 4] ?_; (with_reducible refine (tenorref6_in.calls a2 0 4 true _ A6.out).mono ?_); rintro e w' ⟨rfl, ⟨nd, rfl⟩⟩; refine ⟨_, rfl, ?_⟩) | ((with_reducible refine gG 80 ?_); refine goA (some 25) Try.func80 #[.int .i64 a1] ?_; (with_reducible refine (tenorref6_isDay.calls a1 true _ A8.out).mono ?_); rintro e w' ⟨rfl, ⟨nd, rfl⟩⟩; refine ⟨_, rfl, ?_⟩))
     (try simp only [Act.put, List.setIfInBounds_toArray, List.set_cons_zero, List.set_cons_succ])
     go_cut [35] (fun v35 wc => ∃ (kq : Nat) (x35_13 : Bool), v35 = .bool x35_13 ∧ Aside0 (tenorref6_Adjust.j0 kq a1 a2 1 x35_13 a0_0 l0_1 = some (r1, r2)) ∧ Aside0 (kq ≤ k) ∧ Aside0 (wc.heap[gb522]? = some (.cells #[.int .i64 a0_0, (.slice A0_1 l0_1.length c0_1)] 24 (0, 0))) ∧ Aside0 (Below w.heap.size w wc))
     case first =>
      have H := HC14.out;clear HC14
      by_cases c18 : a2 = 2
      ·
       rw [if_pos c18] at H
       have c18b0 : (a2 == 2) = true := beq_iff_eq.mpr c18
       have c18b1 : (a2 != 2) = false := bne_eq_false_iff_eq.mpr c18
       clear c18
       (first | rw [c18b0] | (simp only [i64_w, i32_w]; rw [c18b0]) | skip)
       have H' := Aside0.mk H;clear H
       go_wp2
       go_meet
       case rel => exact ⟨_, (true), eS, H', ⟨eN⟩, ⟨(bk BK522)⟩, ⟨bB⟩⟩
      ·
       rw [if_neg c18] at H
       have c18b0 : (a2 == 2) = false := beq_eq_false_iff_ne.mpr c18
       have c18b1 : (a2 != 2) = true := bne_iff_ne.mpr c18
       (first | rw [c18b0] | (simp only [i64_w, i32_w]; rw [c18b0]) | skip)
       have H' := Aside0.mk H;clear H
       go_wp2
       go_meet
       case rel => exact ⟨_, ((a2 == 4)), eS, H', ⟨eN⟩, ⟨(bk BK522)⟩, ⟨bB⟩⟩
     case rest =>
      clear HC14
      obtain ⟨kq, x35_13, rfl, HA, HJ13, BK522, HB⟩ := hcut
      cases kq with
      | zero => exact absurd HA.out (by simp [tenorref6_Adjust.j0])
      | succ kj13 =>
       have H := HA.out;clear HA
       simp only [tenorref6_Adjust.j0] at H
       have HC19 := Aside0.mk H;clear H
       go_upto_if 35 with (fail)
       go_cut [10] (fun v10 wc => ∃ (kq : Nat) (x10_18 : Int), v10 = .int .i64 x10_18 ∧ Aside0 (tenorref6_Adjust.j1 kq a1 a2 x10_18 a0_0 l0_1 = some (r1, r2)) ∧ Aside0 (kq ≤ kj13) ∧ Aside0 (wc.heap[gb522]? = some (.cells #[.int .i64 a0_0, (.slice A0_1 l0_1.length c0_1)] 24 (0, 0))) ∧ Aside0 (Below w.heap.size w wc))
       case first =>
        have H := HC19.out;clear HC19
        by_cases c20 : x35_13 = true
        ·
         subst c20
         have H1 : (tenorref6_Adjust.j1 kj13 a1 a2 (-1) a0_0 l0_1) = some (r1, r2) := by rw [if_pos rfl] at H; exact H
         clear H;have H := H1;clear H1;have H' := Aside0.mk H;clear H
         go_wp2
         go_meet
         case rel => exact ⟨_, ((-1)), eS, H', ⟨by have := HJ13.out; first | omega | exact Nat.le_refl _⟩, ⟨(bk BK522)⟩, ⟨bB⟩⟩
        ·
         replace c20 := Bool.eq_false_iff.mpr c20;subst c20
         have H1 : (tenorref6_Adjust.j1 kj13 a1 a2 1 a0_0 l0_1) = some (r1, r2) := by rw [if_neg (show ¬ (false = true) by decide)] at H; exact H
         clear H;have H := H1;clear H1;have H' := Aside0.mk H;clear H
         go_wp2
         go_meet
         case rel => exact ⟨_, (1), eS, H', ⟨by have := HJ13.out; first | omega | exact Nat.le_refl _⟩, ⟨(bk BK522)⟩, ⟨bB⟩⟩
       case rest =>
        clear HC19
        obtain ⟨kq, x10_18, rfl, HA, HJ18, BK522, HB⟩ := hcut
        cases kq with
        | zero => exact absurd HA.out (by simp [tenorref6_Adjust.j1])
        | succ kj18 =>
         have H := HA.out;clear HA
         simp only [tenorref6_Adjust.j1] at H
         replace H := Option.bind_eq_some_iff.mp H
         obtain ⟨⟨t527, t528⟩, A210, H⟩ := H
         replace H : (if a2 = 3 then (if t528 = true then ((tenorref6_month.f kj18 t527).bind fun t529 => ((tenorref6_month.f kj18 a1).bind fun t530 => (tenorref6_Adjust.j2 kj18 a1 x10_18 t527 t528 (t529 != t530) a0_0 l0_1))) else (tenorref6_Adjust.j2 kj18 a1 x10_18 t527 t528 true a0_0 l0_1)) else (if a2 = 4 then (if t528 = true then ((tenorref6_month.f kj18 t527).bind fun t531 => ((tenorref6_month.f kj18 a1).bind fun t532 => (tenorref6_Adjust.j2 kj18 a1 x10_18 t527 t528 (t531 != t532) a0_0 l0_1))) else (tenorref6_Adjust.j2 kj18 a1 x10_18 t527 t528 true a0_0 l0_1)) else (tenorref6_Adjust.j2 kj18 a1 x10_18 t527 t528 false a0_0 l0_1))) = some (r1, r2) := H
         have A21 := Aside0.mk A210;clear A210;have HC22 := Aside0.mk H;clear H
         obtain ⟨_,_,_,_⟩ := blk2 BK522
         go_upto_region 14 with (first | ((with_reducible refine gG 81 ?_); refine goA (some 40) Try.func81 #[.agg #[.int .i64 a0_0, .slice A0_1 l0_1.length c0_1], .int .i64 a1, .int .i64 x10_18] ?_; (with_reducible refine (tenorref6_search.calls kj18 a0_0 _ _ l0_1 a1 x10_18 t527 t528 _ ?side1 ?side2 A21.out).mono ?_); (case side1 => exact sC HR0_1); (case side2 => exact HC0_1.out); rintro e w24 ⟨rfl, hb⟩; refine ⟨_, rfl, ?_⟩; replace BK522 := bK BK522 hb; replace HB := bS hb; (try clear hb); (try clear hb2); (try clear hk); (try clear hi)))
         (try simp only [Act.put, List.setIfInBounds_toArray, List.set_cons_zero, List.set_cons_succ])
         go_cut [59] (fun v59 wc => ∃ (kq : Nat) (x59_21 : Bool), v59 = .bool x59_21 ∧ Aside0 (tenorref6_Adjust.j2 kq a1 x10_18 t527 t528 x59_21 a0_0 l0_1 = some (r1, r2)) ∧ Aside0 (kq ≤ kj18) ∧ Aside0 (wc.heap[gb522]? = some (.cells #[.int .i64 a0_0, (.slice A0_1 l0_1.length c0_1)] 24 (0, 0))) ∧ Aside0 (Below w.heap.size w wc))
         case first =>
          have H := HC22.out;clear HC22
          by_cases c25 : a2 = 3
          ·
           rw [if_pos c25] at H
           have c25b0 : (a2 == 3) = true := beq_iff_eq.mpr c25
           have c25b1 : (a2 != 3) = false := bne_eq_false_iff_eq.mpr c25
           clear c25
           (first | rw [c25b0] | (simp only [i64_w, i32_w]; rw [c25b0]) | skip)
           by_cases c26 : t528 = true
           ·
            subst c26
            have H1 : ((tenorref6_month.f kj18 t527).bind fun t529 => ((tenorref6_month.f kj18 a1).bind fun t530 => (tenorref6_Adjust.j2 kj18 a1 x10_18 t527 true (t529 != t530) a0_0 l0_1))) = some (r1, r2) := by rw [if_pos rfl] at H; exact H
            clear H;have H := H1;clear H1;replace H := Option.bind_eq_some_iff.mp H
            obtain ⟨t529, A270, H⟩ := H
            replace H : ((tenorref6_month.f kj18 a1).bind fun t530 => (tenorref6_Adjust.j2 kj18 a1 x10_18 t527 true (t529 != t530) a0_0 l0_1)) = some (r1, r2) := H
            have A27 := Aside0.mk A270;clear A270;replace H := Option.bind_eq_some_iff.mp H
            obtain ⟨t530, A280, H⟩ := H
            replace H : (tenorref6_Adjust.j2 kj18 a1 x10_18 t527 true (t529 != t530) a0_0 l0_1) = some (r1, r2) := H
            have A28 := Aside0.mk A280;clear A280;have H' := Aside0.mk H;clear H
            go_wp2_with (first | (go_at_call 82; (with_reducible refine (tenorref6_month.calls kj18 t527 t529 _ A27.out).mono ?_); rintro e w29 ⟨rfl, hb⟩; replace BK522 := bK BK522 hb; replace HB := bS hb; (try clear hb); (try clear hb2); (try clear hk); (try clear hi)) | (go_at_call 82; (with_reducible refine (tenorref6_month.calls kj18 a1 t530 _ A28.out).mono ?_); rintro e w30 ⟨rfl, hb⟩; replace BK522 := bK BK522 hb; replace HB := bS hb; (try clear hb); (try clear hb2); (try clear hk); (try clear hi)))
            go_meet
            case rel => exact ⟨_, ((t529 != t530)), eS, H', ⟨by have := HJ13.out; have := HJ18.out; first | omega | exact Nat.le_refl _⟩, ⟨(bk BK522)⟩, ⟨bB⟩⟩
           ·
            replace c26 := Bool.eq_false_iff.mpr c26;subst c26
            have H1 : (tenorref6_Adjust.j2 kj18 a1 x10_18 t527 false true a0_0 l0_1) = some (r1, r2) := by rw [if_neg (show ¬ (false = true) by decide)] at H; exact H
            clear H;have H := H1;clear H1;have H' := Aside0.mk H;clear H
            go_wp2
            go_meet
            case rel => exact ⟨_, (true), eS, H', ⟨by have := HJ13.out; have := HJ18.out; first | omega | exact Nat.le_refl _⟩, ⟨(bk BK522)⟩, ⟨bB⟩⟩
          ·
           rw [if_neg c25] at H
           have c25b0 : (a2 == 3) = false := beq_eq_false_iff_ne.mpr c25
           have c25b1 : (a2 != 3) = true := bne_iff_ne.mpr c25
           (first | rw [c25b0] | (simp only [i64_w, i32_w]; rw [c25b0]) | skip)
           by_cases c31 : a2 = 4
           ·
            rw [if_pos c31] at H
            have c31b0 : (a2 == 4) = true := beq_iff_eq.mpr c31
            have c31b1 : (a2 != 4) = false := bne_eq_false_iff_eq.mpr c31
            clear c31
            by_cases c32 : t528 = true
            ·
             subst c32
             have H1 : ((tenorref6_month.f kj18 t527).bind fun t531 => ((tenorref6_month.f kj18 a1).bind fun t532 => (tenorref6_Adjust.j2 kj18 a1 x10_18 t527 true (t531 != t532) a0_0 l0_1))) = some (r1, r2) := by rw [if_pos rfl] at H; exact H
             clear H;have H := H1;clear H1;replace H := Option.bind_eq_some_iff.mp H
             obtain ⟨t531, A330, H⟩ := H
             replace H : ((tenorref6_month.f kj18 a1).bind fun t532 => (tenorref6_Adjust.j2 kj18 a1 x10_18 t527 true (t531 != t532) a0_0 l0_1)) = some (r1, r2) := H
             have A33 := Aside0.mk A330;clear A330;replace H := Option.bind_eq_some_iff.mp H
             obtain ⟨t532, A340, H⟩ := H
             replace H : (tenorref6_Adjust.j2 kj18 a1 x10_18 t527 true (t531 != t532) a0_0 l0_1) = some (r1, r2) := H
             have A34 := Aside0.mk A340;clear A340;have H' := Aside0.mk H;clear H
             go_wp2_with (first | (go_at_call 82; (with_reducible refine (tenorref6_month.calls kj18 t527 t531 _ A33.out).mono ?_); rintro e w35 ⟨rfl, hb⟩; replace BK522 := bK BK522 hb; replace HB := bS hb; (try clear hb); (try clear hb2); (try clear hk); (try clear hi)) | (go_at_call 82; (with_reducible refine (tenorref6_month.calls kj18 a1 t532 _ A34.out).mono ?_); rintro e w36 ⟨rfl, hb⟩; replace BK522 := bK BK522 hb; replace HB := bS hb; (try clear hb); (try clear hb2); (try clear hk); (try clear hi)))
             go_meet
             case rel => exact ⟨_, ((t531 != t532)), eS, H', ⟨by have := HJ13.out; have := HJ18.out; first | omega | exact Nat.le_refl _⟩, ⟨(bk BK522)⟩, ⟨bB⟩⟩
            ·
             replace c32 := Bool.eq_false_iff.mpr c32;subst c32
             have H1 : (tenorref6_Adjust.j2 kj18 a1 x10_18 t527 false true a0_0 l0_1) = some (r1, r2) := by rw [if_neg (show ¬ (false = true) by decide)] at H; exact H
             clear H;have H := H1;clear H1;have H' := Aside0.mk H;clear H
             go_wp2
             go_meet
             case rel => exact ⟨_, (true), eS, H', ⟨by have := HJ13.out; have := HJ18.out; first | omega | exact Nat.le_refl _⟩, ⟨(bk BK522)⟩, ⟨bB⟩⟩
           ·
            rw [if_neg c31] at H
            have c31b0 : (a2 == 4) = false := beq_eq_false_iff_ne.mpr c31
            have c31b1 : (a2 != 4) = true := bne_iff_ne.mpr c31
            have H' := Aside0.mk H;clear H
            go_wp2
            go_meet
            case rel => exact ⟨_, (false), eS, H', ⟨by have := HJ13.out; have := HJ18.out; first | omega | exact Nat.le_refl _⟩, ⟨(bk BK522)⟩, ⟨bB⟩⟩
         case rest =>
          clear HC22
          obtain ⟨kq, x59_21, rfl, HA, HJ21, BK522, HB⟩ := hcut
          cases kq with
          | zero => exact absurd HA.out (by simp [tenorref6_Adjust.j2])
          | succ kj21 =>
           have H := HA.out;clear HA
           simp only [tenorref6_Adjust.j2] at H
           by_cases c37 : x59_21 = true
           ·
            subst c37
            have H1 : ((tenorref6_search.f kj21 a0_0 l0_1 a1 (wrap64 (-x10_18))).bind fun bt533 => (if bt533.2 = true then (some (bt533.1, 0)) else (some (0, 51)))) = some (r1, r2) := by rw [if_pos rfl] at H; exact H
            clear H;have H := H1;clear H1;replace H := Option.bind_eq_some_iff.mp H
            obtain ⟨⟨t533, t534⟩, A380, H⟩ := H
            replace H : (if t534 = true then (some (t533, 0)) else (some (0, 51))) = some (r1, r2) := H
            have A38 := Aside0.mk A380;clear A380
            by_cases c39 : t534 = true
            ·
             subst c39
             have H1 : (some (t533, 0)) = some (r1, r2) := by rw [if_pos rfl] at H; exact H
             clear H;have H := H1;clear H1
             simp only [Option.some.injEq, Prod.mk.injEq] at H
             obtain ⟨rfl, rfl⟩ := H
             obtain ⟨_,_,_,_⟩ := blk2 BK522
             go_wp2_with (first | ((with_reducible refine gG 81 ?_); refine goA (some 65) Try.func81 #[.agg #[.int .i64 a0_0, .slice A0_1 l0_1.length c0_1], .int .i64 a1, .int .i64 (wrap64 (-x10_18))] ?_; (with_reducible refine (tenorref6_search.calls kj21 a0_0 _ _ l0_1 a1 (wrap64 (-x10_18)) t533 true _ ?side1 ?side2 A38.out).mono ?_); (case side1 => exact sC HR0_1); (case side2 => exact HC0_1.out); rintro e w41 ⟨rfl, hb⟩; refine ⟨_, rfl, ?_⟩; replace BK522 := bK BK522 hb; replace HB := bS hb; (try clear hb); (try clear hb2); (try clear hk); (try clear hi)))
             go_ret2
             exact ⟨eW, bB⟩
            ·
             replace c39 := Bool.eq_false_iff.mpr c39;subst c39
             have H1 : (some (0, 51)) = some (r1, r2) := by rw [if_neg (show ¬ (false = true) by decide)] at H; exact H
             clear H;have H := H1;clear H1
             simp only [Option.some.injEq, Prod.mk.injEq] at H
             obtain ⟨rfl, rfl⟩ := H
             obtain ⟨_,_,_,_⟩ := blk2 BK522
             go_wp2_with (first | ((with_reducible refine gG 81 ?_); refine goA (some 65) Try.func81 #[.agg #[.int .i64 a0_0, .slice A0_1 l0_1.length c0_1], .int .i64 a1, .int .i64 (wrap64 (-x10_18))] ?_; (with_reducible refine (tenorref6_search.calls kj21 a0_0 _ _ l0_1 a1 (wrap64 (-x10_18)) t533 false _ ?side1 ?side2 A38.out).mono ?_); (case side1 => exact sC HR0_1); (case side2 => exact HC0_1.out); rintro e w43 ⟨rfl, hb⟩; refine ⟨_, rfl, ?_⟩; replace BK522 := bK BK522 hb; replace HB := bS hb; (try clear hb); (try clear hb2); (try clear hk); (try clear hi)))
             go_ret2
             exact ⟨eW, bB⟩
           ·
            replace c37 := Bool.eq_false_iff.mpr c37;subst c37
            have H1 : (if t528 = true then (some (t527, 0)) else (some (0, 51))) = some (r1, r2) := by rw [if_neg (show ¬ (false = true) by decide)] at H; exact H
            clear H;have H := H1;clear H1
            by_cases c44 : t528 = true
            ·
             subst c44
             have H1 : (some (t527, 0)) = some (r1, r2) := by rw [if_pos rfl] at H; exact H
             clear H;have H := H1;clear H1
             simp only [Option.some.injEq, Prod.mk.injEq] at H
             obtain ⟨rfl, rfl⟩ := H
             go_wp2
             go_ret2
             exact ⟨eW, bB⟩
            ·
             replace c44 := Bool.eq_false_iff.mpr c44;subst c44
             have H1 : (some (0, 51)) = some (r1, r2) := by rw [if_neg (show ¬ (false = true) by decide)] at H; exact H
             clear H;have H := H1;clear H1
             simp only [Option.some.injEq, Prod.mk.injEq] at H
             obtain ⟨rfl, rfl⟩ := H
             go_wp2
             go_ret2
             exact ⟨eW, bB⟩
   ·
    replace c9 := Bool.eq_false_iff.mpr c9;subst c9
    have H1 : (some (0, 51)) = some (r1, r2) := by rw [if_neg (show ¬ (false = true) by decide)] at H; exact H
    clear H;have H := H1;clear H1
    simp only [Option.some.injEq, Prod.mk.injEq] at H
    obtain ⟨rfl, rfl⟩ := H
    go_enter Try.func39, Try.ntmps39
    go_wp2_with (first | ((with_reducible refine gate_dst (N := 3) rfl ?_); refine box_event ?hg (N := 3) ?hd (cs := #[.int .i64 a0_0, .slice A0_1 l0_1.length c0_1]) (t := 24) ?hr ?_; (case hd => rfl); (case hg => rfl); (case hr => first | (go_simp; done) | (go_simp; rfl)); intro gb522 hg w45 hbox hb; have BK522 := Aside0.mk (hbox); have GW522 := bG hg; have GE522 := bG hg; replace HB := bS hb; clear hb hbox hg; obtain ⟨_,_,_,_⟩ := blk2 BK522) | ((with_reducible refine gG 45 ?_); refine goA (some 15) Try.func45 #[.agg #[.int .i64 a0_0, .slice A0_1 l0_1.length c0_1]] ?_; (with_reducible refine (tenorref6_Check.calls k a0_0 _ _ l0_1 t523 t524 _ ?side1 ?side2 A4.out).mono ?_); (case side1 => exact sC HR0_1); (case side2 => exact HC0_1.out); rintro e w47 ⟨rfl, hb⟩; refine ⟨_, rfl, ?_⟩; replace BK522 := bK BK522 hb; replace HB := bS hb; (try clear hb); (try clear hb2); (try clear hk); (try clear hi)) | ((with_reducible refine gG 79 ?_); refine goA (some 22) Try.func79 #[.int .i64 a2, .int .i64 0, .int .i64 4] ?_; (with_reducible refine (tenorref6_in.calls a2 0 4 true _ A6.out).mono ?_); rintro e w' ⟨rfl, ⟨nd, rfl⟩⟩; refine ⟨_, rfl, ?_⟩) | ((with_reducible refine gG 80 ?_); refine goA (some 25) Try.func80 #[.int .i64 a1] ?_; (with_reducible refine (tenorref6_isDay.calls a1 false _ A8.out).mono ?_); rintro e w' ⟨rfl, ⟨nd, rfl⟩⟩; refine ⟨_, rfl, ?_⟩))
    go_ret2
    exact ⟨eW, bB⟩
  ·
   replace c7 := Bool.eq_false_iff.mpr c7;subst c7
   have H1 : (some (0, 90)) = some (r1, r2) := by rw [if_neg (show ¬ (false = true) by decide)] at H; exact H
   clear H;have H := H1;clear H1
   simp only [Option.some.injEq, Prod.mk.injEq] at H
   obtain ⟨rfl, rfl⟩ := H
   go_enter Try.func39, Try.ntmps39
   go_wp2_with (first | ((with_reducible refine gate_dst (N := 3) rfl ?_); refine box_event ?hg (N := 3) ?hd (cs := #[.int .i64 a0_0, .slice A0_1 l0_1.length c0_1]) (t := 24) ?hr ?_; (case hd => rfl); (case hg => rfl); (case hr => first | (go_simp; done) | (go_simp; rfl)); intro gb522 hg w48 hbox hb; have BK522 := Aside0.mk (hbox); have GW522 := bG hg; have GE522 := bG hg; replace HB := bS hb; clear hb hbox hg; obtain ⟨_,_,_,_⟩ := blk2 BK522) | ((with_reducible refine gG 45 ?_); refine goA (some 15) Try.func45 #[.agg #[.int .i64 a0_0, .slice A0_1 l0_1.length c0_1]] ?_; (with_reducible refine (tenorref6_Check.calls k a0_0 _ _ l0_1 t523 t524 _ ?side1 ?side2 A4.out).mono ?_); (case side1 => exact sC HR0_1); (case side2 => exact HC0_1.out); rintro e w50 ⟨rfl, hb⟩; refine ⟨_, rfl, ?_⟩; replace BK522 := bK BK522 hb; replace HB := bS hb; (try clear hb); (try clear hb2); (try clear hk); (try clear hi)) | ((with_reducible refine gG 79 ?_); refine goA (some 22) Try.func79 #[.int .i64 a2, .int .i64 0, .int .i64 4] ?_; (with_reducible refine (tenorref6_in.calls a2 0 4 false _ A6.out).mono ?_); rintro e w' ⟨rfl, ⟨nd, rfl⟩⟩; refine ⟨_, rfl, ?_⟩))
   go_ret2
   exact ⟨eW, bB⟩
 ·
  rw [if_neg c5] at H
  have c5b0 : (t523 == 0) = false := beq_eq_false_iff_ne.mpr c5
  have c5b1 : (t523 != 0) = true := bne_iff_ne.mpr c5
  simp only [Option.some.injEq, Prod.mk.injEq] at H
  obtain ⟨rfl, rfl⟩ := H
  go_enter Try.func39, Try.ntmps39
  go_wp2_with (first | ((with_reducible refine gate_dst (N := 3) rfl ?_); refine box_event ?hg (N := 3) ?hd (cs := #[.int .i64 a0_0, .slice A0_1 l0_1.length c0_1]) (t := 24) ?hr ?_; (case hd => rfl); (case hg => rfl); (case hr => first | (go_simp; done) | (go_simp; rfl)); intro gb522 hg w51 hbox hb; have BK522 := Aside0.mk (hbox); have GW522 := bG hg; have GE522 := bG hg; replace HB := bS hb; clear hb hbox hg; obtain ⟨_,_,_,_⟩ := blk2 BK522) | ((with_reducible refine gG 45 ?_); refine goA (some 15) Try.func45 #[.agg #[.int .i64 a0_0, .slice A0_1 l0_1.length c0_1]] ?_; (with_reducible refine (tenorref6_Check.calls k a0_0 _ _ l0_1 t523 t524 _ ?side1 ?side2 A4.out).mono ?_); (case side1 => exact sC HR0_1); (case side2 => exact HC0_1.out); rintro e w53 ⟨rfl, hb⟩; refine ⟨_, rfl, ?_⟩; replace BK522 := bK BK522 hb; replace HB := bS hb; (try clear hb); (try clear hb2); (try clear hk); (try clear hi)))
  go_ret2
  exact ⟨eW, bB⟩
end Go.Proofs.Ytoncignjcgjhhaa.Q
namespace Go.Proofs.Ytoncignjcgjhhaa.R
open Go.RowKit Go.Proofs.YtoncignjcgjhhaaW.PrintWords Go.Proofs.YtoncignjcgjhhaaW.PrintLast Go.Proofs.YtoncignjcgjhhaaW.PrintMore
open Go.Proofs.Ytoncignjcgjhhaa.Q
open Go.Proofs.Ytoncignjcgjhhaa.L (w64 td tm tm0)
def sr (p : Int × Int) : Int × Bool := (p.1, decide (p.2 = 0))
theorem search_l0 {we : Int} {l : List S63} (h : (M.chk we (l.map H.ru)).1 = 0) (d : Int) (hd : d = 1 ∨ d = -1) : ∀ (f : Nat) (n : Int), -1 ≤ n → n ≤ 109573 → (d = 1 → 109573 - n < f) → (d = -1 → n + 1 < f) →
  Ev (fun k => tenorref6_search.l0 k n d we l) (sr (M.nextF we (l.map H.ru) d f n))
 | 0, n, a, b, c, e => by omega
 | f + 1, n, a, b, c, e => by
  unfold M.nextF
  by_cases hn : M.isDay n
  ·
   have h0 := hn.1; have h1 := hn.2
   rw [if_pos hn]
   have hw : wrap64 (n + d) = n + d := w64 (by omega) (by omega)
   have hl0 : ∀ k, tenorref6_search.l0 (k + 1) n d we l = (tenorref6_open.f k we l n).bind fun t => if t = true then some (n, true) else tenorref6_search.l0 k (n + d) d we l := by
    intro k
    rw [tenorref6_search.l0, isDay, decide_eq_true hn, hw]; rfl
   refine Ev.step hl0 (Ev.bind (f := fun k t => if t = true then some (n, true) else tenorref6_search.l0 k (n + d) d we l) (open_ h n hn) ?_)
   by_cases ho : M.isOpen we (l.map H.ru) n = true
   ·
    rw [if_pos ho]; exact Ev.congr (fun k => if_pos ho) (Ev.now _)
   ·
    rw [if_neg ho]; exact Ev.congr (fun k => if_neg ho) (search_l0 h d hd f (n + d) (by omega) (by omega) (by omega) (by omega))
  ·
   rw [if_neg hn]
   refine Ev.step (f := fun _ => some ((0 : Int), false)) (fun k => ?_) (Ev.now _)
   rw [tenorref6_search.l0, isDay, decide_eq_false hn]; rfl
theorem search {we : Int} {l : List S63} (h : (M.chk we (l.map H.ru)).1 = 0) (n d : Int) (hd : d = 1 ∨ d = -1) (h0 : -1 ≤ n) (h1 : n ≤ 109573) : Ev (fun k => tenorref6_search.f k we l n d) (sr (M.next we (l.map H.ru) n d)) :=
  search_l0 h d hd 109580 n h0 h1 (by omega) (by omega)
theorem month (n : Int) (h : M.isDay n) : Ev (fun k => tenorref6_month.f k n) (M.month n) := by
 have hc := Civil n
 rw [if_pos (show 0 ≤ n ∧ n ≤ 109572 from h)] at hc
 obtain ⟨⟨a, b, c, d, _, _⟩, _⟩ := M.civ_spec n h.1 h.2
 refine Ev.congr (fun k => rfl) (Ev.bind hc (Ev.congr (f := fun _ => some (M.month n)) (fun k => ?_) (Ev.now _)))
 simp only
 rw [w64 (x := 12 * M.civY n) (by omega) (by omega), w64 (by omega) (by omega)]
 rfl
theorem res_eq {p : Int × Int} (h : (p = (0, 51)) ∨ (p.2 = 0 ∧ M.isDay p.1)) : (if (sr p).2 = true then some ((sr p).1, (0 : Int)) else some (0, 51)) = some p := by
 obtain ⟨a, b⟩ := p
 rcases h with h | h
 ·
  rw [h]; rfl
 ·
  simp only at h; obtain ⟨rfl, _⟩ := h; rfl
theorem res_of (we : Int) (l : List M.Rul) (n d : Int) : (M.next we l n d = (0, 51)) ∨ ((M.next we l n d).2 = 0 ∧ M.isDay (M.next we l n d).1) := by
 rcases M.next_res we l n d with h | h
 ·
  exact .inl h
 ·
  exact .inr ⟨h.1, h.2.1⟩
theorem Adjust_j2 {we : Int} {l : List S63} (h : (M.chk we (l.map H.ru)).1 = 0) (n d : Int) (hd : d = 1 ∨ d = -1) (hn : M.isDay n) (p : Int × Int) (b : Bool) (hp : (p = (0, 51)) ∨ (p.2 = 0 ∧ M.isDay p.1)) :
  Ev (fun k => tenorref6_Adjust.j2 k n d (sr p).1 (sr p).2 b we l) (if b = true then M.next we (l.map H.ru) n (-d) else p) := by
 have h0 := hn.1; have h1 := hn.2
 have hw : wrap64 (-d) = -d := w64 (by omega) (by omega)
 cases b with
 | true =>
  refine Ev.step (fun k => ?_) (Ev.bind (f := fun _ (t : Int × Bool) => if t.2 = true then some (t.1, (0 : Int)) else some (0, 51)) (search h n (-d) (by omega) (by omega) (by omega)) (Ev.congr (fun k => res_eq (res_of _ _ _ _)) (Ev.now _)))
  rw [tenorref6_Adjust.j2, if_pos rfl, hw]
 | false =>
  refine Ev.step (f := fun _ => some p) (fun k => ?_) (Ev.now _)
  rw [tenorref6_Adjust.j2, if_neg (by decide)]
  exact res_eq hp
theorem kept_eq (we : Int) (l : List M.Rul) (n d : Int) : M.kept we l n d = if (if (M.next we l n d).2 = 0 then decide (M.month (M.next we l n d).1 ≠ M.month n) else true) = true then M.next we l n (-d) else M.next we l n d := by
 unfold M.kept
 by_cases h : (M.next we l n d).2 = 0
 ·
  by_cases hm : M.month (M.next we l n d).1 = M.month n
  ·
   rw [if_pos ⟨h, hm⟩, if_pos h, if_neg (by simp [hm])]
  ·
   rw [if_neg (fun e => hm e.2), if_pos h, if_pos (by simp [hm])]
 ·
  rw [if_neg (fun e => h e.1), if_neg h, if_pos rfl]
theorem Adjust_j1 {we : Int} {l : List S63} (h : (M.chk we (l.map H.ru)).1 = 0) (n d way : Int) (hd : d = 1 ∨ d = -1) (hn : M.isDay n) :
  Ev (fun k => tenorref6_Adjust.j1 k n way d we l) (if way = 3 ∨ way = 4 then M.kept we (l.map H.ru) n d else M.next we (l.map H.ru) n d) := by
 have h0 := hn.1; have h1 := hn.2
 have hres := res_of we (l.map H.ru) n d
 refine Ev.step (fun k => by rw [tenorref6_Adjust.j1]) (Ev.bind (search h n d hd (by omega) (by omega)) ?_)
 have key : Ev (fun k => if (sr (M.next we (l.map H.ru) n d)).2 = true then ((tenorref6_month.f k (sr (M.next we (l.map H.ru) n d)).1).bind fun t => ((tenorref6_month.f k n).bind fun s => (tenorref6_Adjust.j2 k n d (sr (M.next we (l.map H.ru) n d)).1 (sr (M.next we (l.map H.ru) n d)).2 (t != s) we l))) else (tenorref6_Adjust.j2 k n d (sr (M.next we (l.map H.ru) n d)).1 (sr (M.next we (l.map H.ru) n d)).2 true we l)) (M.kept we (l.map H.ru) n d) := by
  rw [kept_eq]
  by_cases h2 : (M.next we (l.map H.ru) n d).2 = 0
  ·
   have hday : M.isDay (M.next we (l.map H.ru) n d).1 := by
    rcases hres with e | e
    ·
     rw [e] at h2; cases h2
    ·
     exact e.2
   rw [if_pos h2]
   have hs : (sr (M.next we (l.map H.ru) n d)).2 = true := decide_eq_true h2
   refine Ev.congr (fun k => if_pos hs) (Ev.bind (f := fun k t => ((tenorref6_month.f k n).bind fun s => (tenorref6_Adjust.j2 k n d (sr (M.next we (l.map H.ru) n d)).1 (sr (M.next we (l.map H.ru) n d)).2 (t != s) we l))) (month _ hday) (Ev.bind (f := fun k s => tenorref6_Adjust.j2 k n d (sr (M.next we (l.map H.ru) n d)).1 (sr (M.next we (l.map H.ru) n d)).2 (M.month (M.next we (l.map H.ru) n d).1 != s) we l) (month n hn) ?_))
   have e : (M.month (M.next we (l.map H.ru) n d).1 != M.month n) = decide (M.month (M.next we (l.map H.ru) n d).1 ≠ M.month n) := by
    rw [Bool.eq_iff_iff, bne_iff_ne, decide_eq_true_eq]
   rw [e]
   exact Adjust_j2 h n d hd hn _ _ hres
  ·
   have hs : ¬ (sr (M.next we (l.map H.ru) n d)).2 = true := by simp [sr, h2]
   rw [if_neg h2]
   exact Ev.congr (fun k => if_neg hs) (Adjust_j2 h n d hd hn _ true hres)
 by_cases h3 : way = 3
 ·
  rw [if_pos (.inl h3)]
  exact Ev.congr (fun k => if_pos h3) key
 by_cases h4 : way = 4
 ·
  rw [if_pos (.inr h4)]
  exact Ev.congr (fun k => by rw [if_neg h3, if_pos h4]) key
 ·
  rw [if_neg (by omega)]
  have hj := Adjust_j2 h n d hd hn (M.next we (l.map H.ru) n d) false hres
  rw [if_neg (by decide)] at hj
  exact Ev.congr (fun k => by rw [if_neg h3, if_neg h4]) hj
theorem Adjust_j0 {we : Int} {l : List S63} (h : (M.chk we (l.map H.ru)).1 = 0) (n way : Int) (b : Bool) (hn : M.isDay n) :
  Ev (fun k => tenorref6_Adjust.j0 k n way 1 b we l) (if way = 3 ∨ way = 4 then M.kept we (l.map H.ru) n (if b = true then -1 else 1) else M.next we (l.map H.ru) n (if b = true then -1 else 1)) := by
 cases b with
 | true => rw [show (if true = true then (-1 : Int) else 1) = -1 from rfl]; exact Ev.step (fun k => by rw [tenorref6_Adjust.j0, if_pos rfl]) (Adjust_j1 h n (-1) way (.inr rfl) hn)
 | false => rw [show (if false = true then (-1 : Int) else 1) = 1 from rfl]; exact Ev.step (fun k => by rw [tenorref6_Adjust.j0, if_neg (by decide)]) (Adjust_j1 h n 1 way (.inl rfl) hn)
theorem Adjust (we : Int) (l : List S63) (n way : Int) : Ev (fun k => tenorref6_Adjust.f k we l n way) (M.Adjust we (l.map H.ru) n way) := by
 unfold M.Adjust
 refine Ev.congr (fun k => rfl) (Ev.bind (Check we l) ?_)
 by_cases hc : (M.chk we (l.map H.ru)).1 = 0
 ·
  rw [if_pos hc]
  refine Ev.congr (fun k => by rw [if_pos hc, in_, Option.bind_some]) ?_
  by_cases hk : way < 0 ∨ way > 4
  ·
   rw [if_pos hk]; exact Ev.congr (fun k => by rw [decide_eq_false (by omega)]; rfl) (Ev.now _)
  ·
   rw [if_neg hk]
   refine Ev.congr (fun k => by rw [decide_eq_true (by omega), if_pos rfl, isDay, Option.bind_some]) ?_
   by_cases hd : M.isDay n
   ·
    rw [if_pos hd]
    refine Ev.congr (fun k => by rw [decide_eq_true hd, if_pos rfl]) ?_
    by_cases w0 : way = 0
    ·
     subst w0
     rw [if_neg (show ¬ ((0 : Int) = 1) by decide), if_neg (show ¬ ((0 : Int) = 2) by decide), if_neg (show ¬ ((0 : Int) = 3) by decide), if_neg (show ¬ ((0 : Int) = 4) by decide)]
     exact Ev.congr (fun k => if_pos rfl) (Ev.now _)
    refine Ev.congr (fun k => if_neg w0) ?_
    by_cases w2 : way = 2
    ·
     subst w2;have hj := Adjust_j0 hc n 2 true hd
     rw [if_neg (show ¬ ((2 : Int) = 3 ∨ (2 : Int) = 4) by omega), if_pos rfl] at hj
     rw [if_neg (show ¬ ((2 : Int) = 1) by decide), if_pos rfl]
     exact Ev.congr (fun k => if_pos rfl) hj
    refine Ev.congr (fun k => if_neg w2) ?_
    have hj := Adjust_j0 hc n way (way == 4) hd
    have hw : way = 1 ∨ way = 3 ∨ way = 4 := by omega
    rcases hw with rfl | rfl | rfl
    ·
     rw [if_neg (show ¬ ((1 : Int) = 3 ∨ (1 : Int) = 4) by omega), if_neg (show ¬ (((1 : Int) == 4) = true) by decide)] at hj
     rw [if_pos rfl]; exact hj
    ·
     rw [if_pos (show (3 : Int) = 3 ∨ (3 : Int) = 4 by omega), if_neg (show ¬ (((3 : Int) == 4) = true) by decide)] at hj
     rw [if_neg (by decide), if_neg (by decide), if_pos rfl]; exact hj
    ·
     rw [if_pos (show (4 : Int) = 3 ∨ (4 : Int) = 4 by omega), if_pos (show ((4 : Int) == 4) = true by decide)] at hj
     rw [if_neg (by decide), if_neg (by decide), if_neg (by decide), if_pos rfl]; exact hj
   ·
    rw [if_neg hd]; exact Ev.congr (fun k => by rw [decide_eq_false hd]; rfl) (Ev.now _)
 ·
  rw [if_neg hc]; exact Ev.congr (fun k => by rw [if_neg hc]) (Ev.now _)
end Go.Proofs.Ytoncignjcgjhhaa.R
namespace Go.Proofs.Ytoncignjcgjhhaa.Q
open Go.RowKit Go.Proofs.YtoncignjcgjhhaaW.PrintWords Go.Proofs.YtoncignjcgjhhaaW.PrintLast Go.Proofs.YtoncignjcgjhhaaW.PrintMore
attribute [local go_sem] max2_int min2_int max_two min_two max_three min_three max_four min_four   -- for this text's walks alone
mutual
def tenorref6_Add.j0 : Nat → Int → Int → Int → Int → List (S63) → Option (Int × Int)
  | 0, _, _, _, _, _ => none
  | k + 1, x1, x2, x9, x544000, x544001 => tenorref6_Add.l0 k x1 x2 x9 x544000 x544001
def tenorref6_Add.l0 : Nat → Int → Int → Int → Int → List (S63) → Option (Int × Int)
  | 0, _, _, _, _, _ => none
  | k + 1, x1, x2, x9, x544000, x544001 => if x2 = 0 then (some (x1, 0)) else ((tenorref6_search.f k x544000 x544001 (wrap64 (x1 + x9)) x9).bind fun bt547 => (if bt547.2 = true then (tenorref6_Add.l0 k bt547.1 (wrap64 (x2 - x9)) x9 x544000 x544001) else (some (0, 51))))
end
def tenorref6_Add.f (k : Nat) (a0_0 : Int) (l0_1 : List (S63)) (a1 a2 : Int) : Option (Int × Int) := if a2 = 0 then ((tenorref6_Adjust.f k a0_0 l0_1 a1 1).bind fun bt544 => (some (bt544.1, bt544.2))) else ((tenorref6_asked.f k a0_0 l0_1 a1).bind fun t546 => (if t546 = 0 then (if a2 < 0 then (tenorref6_Add.j0 k a1 a2 (-1) a0_0 l0_1) else (tenorref6_Add.j0 k a1 a2 1 a0_0 l0_1)) else (some (0, t546))))
set_option maxHeartbeats 8000000 in
set_option maxRecDepth 100000 in
theorem tenorref6_Add.calls (k : Nat) (a0_0 : Int) (A0_1 : Option Addr) (c0_1 : Nat) (l0_1 : List (S63)) (a1 a2 r1 r2 : Int) (w : World) (hr0_1 : Kd.C k63 w A0_1 l0_1.length l0_1) (hc0_1 : l0_1.length ≤ c0_1) (h : tenorref6_Add.f k a0_0 l0_1 a1 a2 = some (r1, r2)) :
  Calls Try.prog 41 #[.agg #[.int .i64 a0_0, .slice A0_1 l0_1.length c0_1], .int .i64 a1, .int .i64 a2] w fun e w' => e = .returned (.tuple #[.int .i64 r1, .int .i64 r2]) ∧ Below w.heap.size w w' := by
 have hu24 := Try.underlying24;have HR0_1 := Aside0.mk hr0_1;have HC0_1 := Aside0.mk hc0_1;clear hr0_1 hc0_1
 have HB := Aside0.mk (Below.refl w.heap.size w)
 have H : (if a2 = 0 then ((tenorref6_Adjust.f k a0_0 l0_1 a1 1).bind fun bt544 => (some (bt544.1, bt544.2))) else ((tenorref6_asked.f k a0_0 l0_1 a1).bind fun t546 => (if t546 = 0 then (if a2 < 0 then (tenorref6_Add.j0 k a1 a2 (-1) a0_0 l0_1) else (tenorref6_Add.j0 k a1 a2 1 a0_0 l0_1)) else (some (0, t546))))) = some (r1, r2) := h
 clear h
 by_cases c4 : a2 = 0
 ·
  rw [if_pos c4] at H
  have c4b0 : (a2 == 0) = true := beq_iff_eq.mpr c4
  have c4b1 : (a2 != 0) = false := bne_eq_false_iff_eq.mpr c4
  clear c4;replace H := Option.bind_eq_some_iff.mp H
  obtain ⟨⟨t544, t545⟩, A50, H⟩ := H
  replace H : (some (t544, t545)) = some (r1, r2) := H
  have A5 := Aside0.mk A50;clear A50
  simp only [Option.some.injEq, Prod.mk.injEq] at H
  obtain ⟨rfl, rfl⟩ := H
  go_enter Try.func41, Try.ntmps41
  go_wp2_with (first | ((with_reducible refine gate_dst (N := 3) rfl ?_); refine box_event ?hg (N := 3) ?hd (cs := #[.int .i64 a0_0, .slice A0_1 l0_1.length c0_1]) (t := 24) ?hr ?_; (case hd => rfl); (case hg => rfl); (case hr => first | (go_simp; done) | (go_simp; rfl)); intro gb543 hg w6 hbox hb; have BK543 := Aside0.mk (hbox); have GW543 := bG hg; have GE543 := bG hg; replace HB := bS hb; clear hb hbox hg; obtain ⟨_,_,_,_⟩ := blk2 BK543) | ((with_reducible refine gG 39 ?_); refine goA (some 16) Try.func39 #[.agg #[.int .i64 a0_0, .slice A0_1 l0_1.length c0_1], .int .i64 a1, .int .i64 1] ?_; (with_reducible refine (tenorref6_Adjust.calls k a0_0 _ _ l0_1 a1 1 t544 t545 _ ?side1 ?side2 A5.out).mono ?_); (case side1 => exact sC HR0_1); (case side2 => exact HC0_1.out); rintro e w8 ⟨rfl, hb⟩; refine ⟨_, rfl, ?_⟩; replace BK543 := bK BK543 hb; replace HB := bS hb; (try clear hb); (try clear hb2); (try clear hk); (try clear hi)))
  go_ret2
  exact ⟨eW, bB⟩
 ·
  rw [if_neg c4] at H
  have c4b0 : (a2 == 0) = false := beq_eq_false_iff_ne.mpr c4
  have c4b1 : (a2 != 0) = true := bne_iff_ne.mpr c4
  replace H := Option.bind_eq_some_iff.mp H
  obtain ⟨t546, A90, H⟩ := H
  replace H : (if t546 = 0 then (if a2 < 0 then (tenorref6_Add.j0 k a1 a2 (-1) a0_0 l0_1) else (tenorref6_Add.j0 k a1 a2 1 a0_0 l0_1)) else (some (0, t546))) = some (r1, r2) := H
  have A9 := Aside0.mk A90;clear A90
  by_cases c10 : t546 = 0
  ·
   rw [if_pos c10] at H
   have c10b0 : (t546 == 0) = true := beq_iff_eq.mpr c10
   have c10b1 : (t546 != 0) = false := bne_eq_false_iff_eq.mpr c10
   clear c10;have HC11 := Aside0.mk H;clear H
   go_enter Try.func41, Try.ntmps41
   go_upto_if 26 with (first | ((with_reducible refine gate_dst (N := 3) rfl ?_); refine box_event ?hg (N := 3) ?hd (cs := #[.int .i64 a0_0, .slice A0_1 l0_1.length c0_1]) (t := 24) ?hr ?_; (case hd => rfl); (case hg => rfl); (case hr => first | (go_simp; done) | (go_simp; rfl)); intro gb543 hg w12 hbox hb; have BK543 := Aside0.mk (hbox); have GW543 := bG hg; have GE543 := bG hg; replace HB := bS hb; clear hb hbox hg; obtain ⟨_,_,_,_⟩ := blk2 BK543) | ((with_reducible refine gG 73 ?_); refine goA (some 21) Try.func73 #[.agg #[.int .i64 a0_0, .slice A0_1 l0_1.length c0_1], .int .i64 a1] ?_; (with_reducible refine (tenorref6_asked.calls k a0_0 _ _ l0_1 a1 t546 _ ?side1 ?side2 A9.out).mono ?_); (case side1 => exact sC HR0_1); (case side2 => exact HC0_1.out); rintro e w14 ⟨rfl, hb⟩; refine ⟨_, rfl, ?_⟩; replace BK543 := bK BK543 hb; replace HB := bS hb; (try clear hb); (try clear hb2); (try clear hk); (try clear hi)))
   (try simp only [Act.put, List.setIfInBounds_toArray, List.set_cons_zero, List.set_cons_succ])
   go_cut [9] (fun v9 wc => ∃ (kq : Nat) (x9_10 : Int), v9 = .int .i64 x9_10 ∧ Aside0 (tenorref6_Add.j0 kq a1 a2 x9_10 a0_0 l0_1 = some (r1, r2)) ∧ Aside0 (kq ≤ k) ∧ Aside0 (wc.heap[gb543]? = some (.cells #[.int .i64 a0_0, (.slice A0_1 l0_1.length c0_1)] 24 (0, 0))) ∧ Aside0 (Below w.heap.size w wc))
   case first =>
    have H := HC11.out;clear HC11
    by_cases c15 : a2 < 0
    ·
     rw [if_pos c15] at H
     have c15b0 : decide (a2 < 0) = true := decide_eq_true c15
     clear c15
     (first | rw [c15b0] | (simp only [i64_w, i32_w]; rw [c15b0]) | skip)
     have H' := Aside0.mk H;clear H
     go_wp2
     go_meet
     case rel => exact ⟨_, ((-1)), eS, H', ⟨eN⟩, ⟨(bk BK543)⟩, ⟨bB⟩⟩
    ·
     rw [if_neg c15] at H
     have c15b0 : decide (a2 < 0) = false := decide_eq_false c15
     clear c15
     (first | rw [c15b0] | (simp only [i64_w, i32_w]; rw [c15b0]) | skip)
     have H' := Aside0.mk H;clear H
     go_wp2
     go_meet
     case rel => exact ⟨_, (1), eS, H', ⟨eN⟩, ⟨(bk BK543)⟩, ⟨bB⟩⟩
   case rest =>
    clear HC11
    obtain ⟨kq, x9_10, rfl, HA, HJ10, BK543, HB⟩ := hcut
    cases kq with
    | zero => exact absurd HA.out (by simp [tenorref6_Add.j0])
    | succ kj10 =>
     have H := HA.out;clear HA
     simp only [tenorref6_Add.j0] at H
     have H' := Aside0.mk H;clear H
     go_wp2
     go_loopg [1, 2] kj10 (fun kq v1 v2 w' => ∃ (x1_2 : Int) (x2_2 : Int), v1 = .int .i64 x1_2 ∧ v2 = .int .i64 x2_2 ∧ Aside0 (tenorref6_Add.l0 kq x1_2 x2_2 x9_10 a0_0 l0_1 = some (r1, r2)) ∧ Aside0 (kq ≤ kj10) ∧ Aside0 (w'.heap[gb543]? = some (.cells #[.int .i64 a0_0, (.slice A0_1 l0_1.length c0_1)] 24 (0, 0))) ∧ Aside0 (Below w.heap.size w w'))
     case atStart => exact ⟨(a1), (a2), eS, eS, H', ⟨Nat.le_refl _⟩, ⟨(bk BK543)⟩, ⟨bB⟩⟩
     case round =>
      clear H'
      obtain ⟨x1_2, x2_2, rfl, rfl, HA, HK2, BK543, HB⟩ := hrel
      cases gk with
      | zero => exact absurd HA.out (by simp [tenorref6_Add.l0])
      | succ k2 =>
       have H := HA.out;clear HA
       simp only [tenorref6_Add.l0] at H
       by_cases c16 : x2_2 = 0
       ·
        rw [if_pos c16] at H
        have c16b0 : (x2_2 == 0) = true := beq_iff_eq.mpr c16
        have c16b1 : (x2_2 != 0) = false := bne_eq_false_iff_eq.mpr c16
        clear c16
        simp only [Option.some.injEq, Prod.mk.injEq] at H
        obtain ⟨rfl, rfl⟩ := H
        go_wp2
        go_ret2
        exact ⟨eW, bB⟩
       ·
        rw [if_neg c16] at H
        have c16b0 : (x2_2 == 0) = false := beq_eq_false_iff_ne.mpr c16
        have c16b1 : (x2_2 != 0) = true := bne_iff_ne.mpr c16
        replace H := Option.bind_eq_some_iff.mp H
        obtain ⟨⟨t547, t548⟩, A170, H⟩ := H
        replace H : (if t548 = true then (tenorref6_Add.l0 k2 t547 (wrap64 (x2_2 - x9_10)) x9_10 a0_0 l0_1) else (some (0, 51))) = some (r1, r2) := H
        have A17 := Aside0.mk A170;clear A170
        by_cases c18 : t548 = true
        ·
         subst c18
         have H1 : (tenorref6_Add.l0 k2 t547 (wrap64 (x2_2 - x9_10)) x9_10 a0_0 l0_1) = some (r1, r2) := by rw [if_pos rfl] at H; exact H
         clear H;have H := H1;clear H1;have H' := Aside0.mk H;clear H
         obtain ⟨_,_,_,_⟩ := blk2 BK543
         go_wp2_with (first | ((with_reducible refine gG 81 ?_); refine goA (some 35) Try.func81 #[.agg #[.int .i64 a0_0, .slice A0_1 l0_1.length c0_1], .int .i64 (wrap64 (x1_2 + x9_10)), .int .i64 x9_10] ?_; (with_reducible refine (tenorref6_search.calls k2 a0_0 _ _ l0_1 (wrap64 (x1_2 + x9_10)) x9_10 t547 true _ ?side1 ?side2 A17.out).mono ?_); (case side1 => exact sC HR0_1); (case side2 => exact HC0_1.out); rintro e w20 ⟨rfl, hb⟩; refine ⟨_, rfl, ?_⟩; replace BK543 := bK BK543 hb; replace HB := bS hb; (try clear hb); (try clear hb2); (try clear hk); (try clear hi)))
         go_roundg k2
         case measure => have := HJ10.out; have := HK2.out; omega
         case rel => exact ⟨(t547), (wrap64 (x2_2 - x9_10)), eS, eS, H', ⟨by have := HJ10.out; have := HK2.out; omega⟩, ⟨(bk BK543)⟩, ⟨bB⟩⟩
        ·
         replace c18 := Bool.eq_false_iff.mpr c18;subst c18
         have H1 : (some (0, 51)) = some (r1, r2) := by rw [if_neg (show ¬ (false = true) by decide)] at H; exact H
         clear H;have H := H1;clear H1
         simp only [Option.some.injEq, Prod.mk.injEq] at H
         obtain ⟨rfl, rfl⟩ := H
         obtain ⟨_,_,_,_⟩ := blk2 BK543
         go_wp2_with (first | ((with_reducible refine gG 81 ?_); refine goA (some 35) Try.func81 #[.agg #[.int .i64 a0_0, .slice A0_1 l0_1.length c0_1], .int .i64 (wrap64 (x1_2 + x9_10)), .int .i64 x9_10] ?_; (with_reducible refine (tenorref6_search.calls k2 a0_0 _ _ l0_1 (wrap64 (x1_2 + x9_10)) x9_10 t547 false _ ?side1 ?side2 A17.out).mono ?_); (case side1 => exact sC HR0_1); (case side2 => exact HC0_1.out); rintro e w22 ⟨rfl, hb⟩; refine ⟨_, rfl, ?_⟩; replace BK543 := bK BK543 hb; replace HB := bS hb; (try clear hb); (try clear hb2); (try clear hk); (try clear hi)))
         go_ret2
         exact ⟨eW, bB⟩
  ·
   rw [if_neg c10] at H
   have c10b0 : (t546 == 0) = false := beq_eq_false_iff_ne.mpr c10
   have c10b1 : (t546 != 0) = true := bne_iff_ne.mpr c10
   simp only [Option.some.injEq, Prod.mk.injEq] at H
   obtain ⟨rfl, rfl⟩ := H
   go_enter Try.func41, Try.ntmps41
   go_wp2_with (first | ((with_reducible refine gate_dst (N := 3) rfl ?_); refine box_event ?hg (N := 3) ?hd (cs := #[.int .i64 a0_0, .slice A0_1 l0_1.length c0_1]) (t := 24) ?hr ?_; (case hd => rfl); (case hg => rfl); (case hr => first | (go_simp; done) | (go_simp; rfl)); intro gb543 hg w23 hbox hb; have BK543 := Aside0.mk (hbox); have GW543 := bG hg; have GE543 := bG hg; replace HB := bS hb; clear hb hbox hg; obtain ⟨hcz24_0,hcz24_1,hfz24_0,hfz24_1⟩ := blk2 BK543) | ((with_reducible refine gG 73 ?_); refine goA (some 21) Try.func73 #[.agg #[.int .i64 a0_0, .slice A0_1 l0_1.length c0_1], .int .i64 a1] ?_; (with_reducible refine (tenorref6_asked.calls k a0_0 _ _ l0_1 a1 t546 _ ?side1 ?side2 A9.out).mono ?_); (case side1 => exact sC HR0_1); (case side2 => exact HC0_1.out); rintro e w25 ⟨rfl, hb⟩; refine ⟨_, rfl, ?_⟩; replace BK543 := bK BK543 hb; replace HB := bS hb; (try clear hb); (try clear hb2); (try clear hk); (try clear hi)))
   go_ret2
   exact ⟨eW, bB⟩
end Go.Proofs.Ytoncignjcgjhhaa.Q
namespace Go.Proofs.Ytoncignjcgjhhaa.R
open Go.RowKit Go.Proofs.YtoncignjcgjhhaaW.PrintWords Go.Proofs.YtoncignjcgjhhaaW.PrintLast Go.Proofs.YtoncignjcgjhhaaW.PrintMore
open Go.Proofs.Ytoncignjcgjhhaa.Q
open Go.Proofs.Ytoncignjcgjhhaa.L (w64 td tm tm0)
theorem Add_l0 {we : Int} {l : List S63} (h : (M.chk we (l.map H.ru)).1 = 0) (d : Int) (hd : d = 1 ∨ d = -1) : ∀ (f : Nat) (n j : Int), M.isDay n → (d = 1 → 0 ≤ j ∧ j ≤ 9223372036854775807) → (d = -1 → -9223372036854775808 ≤ j ∧ j ≤ 0) → (d = 1 → 109572 - n < f) → (d = -1 → n < f) →
  Ev (fun k => tenorref6_Add.l0 k n j d we l) (M.addF we (l.map H.ru) d f n j)
 | 0, n, j, a, _, _, c, e => by have := a.1; have := a.2; omega
 | f + 1, n, j, a, b1, b2, c, e => by
  have h0 := a.1; have h1 := a.2
  unfold M.addF
  by_cases hj : j = 0
  ·
   rw [if_pos hj]
   exact Ev.step (f := fun _ => some (n, (0 : Int))) (fun k => by rw [tenorref6_Add.l0, if_pos hj]) (Ev.now _)
  ·
   rw [if_neg hj]
   have hw : wrap64 (n + d) = n + d := w64 (by omega) (by omega)
   have hw2 : wrap64 (j - d) = j - d := w64 (by omega) (by omega)
   refine Ev.step (fun k => by rw [tenorref6_Add.l0, if_neg hj, hw, hw2]) (Ev.bind (search h (n + d) d hd (by omega) (by omega)) ?_)
   have hres := res_of we (l.map H.ru) (n + d) d
   have hup : d = 1 → (M.next we (l.map H.ru) (n + d) d).2 = 0 → n + d ≤ (M.next we (l.map H.ru) (n + d) d).1 := by rintro rfl; exact H.nextF_up we (l.map H.ru) 109580 (n + 1)
   have hdn : d = -1 → (M.next we (l.map H.ru) (n + d) d).2 = 0 → (M.next we (l.map H.ru) (n + d) d).1 ≤ n + d := by rintro rfl; exact H.nextF_down we (l.map H.ru) 109580 (n + -1)
   generalize M.next we (l.map H.ru) (n + d) d = p at hres hup hdn ⊢
   by_cases h2 : p.2 = 0
   ·
    have hday : M.isDay p.1 := by
     rcases hres with e | e
     ·
      rw [e] at h2; cases h2
     ·
      exact e.2
    have hs : (sr p).2 = true := decide_eq_true h2
    have u := fun hd => hup hd h2
    have v := fun hd => hdn hd h2
    rw [if_pos h2]
    exact Ev.congr (fun k => if_pos hs) (Add_l0 h d hd f p.1 (j - d) hday (by omega) (by omega) (by omega) (by omega))
   ·
    have hs : ¬ (sr p).2 = true := by simp [sr, h2]
    rw [if_neg h2]
    exact Ev.congr (fun k => if_neg hs) (Ev.now _)
theorem Add (we : Int) (l : List S63) (n k : Int) (hk : L.i64 k) : Ev (fun q => tenorref6_Add.f q we l n k) (M.Add we (l.map H.ru) n k) := by
 have hk0 := hk.1; have hk1 := hk.2
 by_cases k0 : k = 0
 ·
  subst k0
  have e : M.Add we (l.map H.ru) n 0 = M.Adjust we (l.map H.ru) n 1 := by
   unfold M.Add M.Adjust
   by_cases hc : (M.chk we (l.map H.ru)).1 = 0
   ·
    rw [if_pos hc, if_pos hc]
    by_cases hd : M.isDay n
    ·
     rw [if_pos hd, if_pos rfl, if_neg (show ¬ ((1 : Int) < 0 ∨ (1 : Int) > 4) by omega), if_pos hd, if_pos rfl]
    ·
     rw [if_neg hd, if_neg (show ¬ ((1 : Int) < 0 ∨ (1 : Int) > 4) by omega), if_neg hd]
   ·
    rw [if_neg hc, if_neg hc]
  rw [e]
  refine Ev.congr (fun q => ?_) (Ev.bind (f := fun _ (t : Int × Int) => some (t.1, t.2)) (Adjust we l n 1) (Ev.now _))
  unfold tenorref6_Add.f; rw [if_pos rfl]
 ·
  refine Ev.congr (fun q => by unfold tenorref6_Add.f; rw [if_neg k0]) (Ev.bind (asked we l n) ?_)
  unfold M.Add
  by_cases hc : (M.chk we (l.map H.ru)).1 = 0
  ·
   rw [if_pos hc, if_pos hc]
   by_cases hd : M.isDay n
   ·
    have h0 := hd.1; have h1 := hd.2
    rw [if_pos hd, if_pos hd, if_neg k0]
    refine Ev.congr (fun q => if_pos rfl) ?_
    by_cases hneg : k < 0
    ·
     rw [if_pos hneg]
     exact Ev.congr (fun q => if_pos hneg) (Ev.step (fun q => by rw [tenorref6_Add.j0]) (Add_l0 hc (-1) (.inr rfl) 109580 n k hd (by omega) (by omega) (by omega) (by omega)))
    ·
     rw [if_neg hneg]
     exact Ev.congr (fun q => if_neg hneg) (Ev.step (fun q => by rw [tenorref6_Add.j0]) (Add_l0 hc 1 (.inl rfl) 109580 n k hd (by omega) (by omega) (by omega) (by omega)))
   ·
    rw [if_neg hd, if_neg hd]; exact Ev.congr (fun q => if_neg (by decide)) (Ev.now _)
  ·
   rw [if_neg hc, if_neg hc]; exact Ev.congr (fun q => if_neg hc) (Ev.now _)
end Go.Proofs.Ytoncignjcgjhhaa.R
