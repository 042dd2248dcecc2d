/- Contracts and facts of functions of the program (calendar, dates and their documents), joined in one text by a program of this session. No condition but what each theorem states. -/
import Derived.Test.YtoncignjcgjhhaaLGC
import Derived.Test.YtoncignjcgjhhaaLGA
import Derived.Test.YtoncignjcgjhhaaLGB
set_option linter.unusedVariables false
set_option linter.unusedSimpArgs false
namespace Go.Proofs.Ytoncignjcgjhhaa.H
open Go.RowKit Go.Maps Go.Proofs.YtoncignjcgjhhaaW.PrintWords Go.Proofs.YtoncignjcgjhhaaW.PrintLast Go.Proofs.YtoncignjcgjhhaaW.PrintMore
open Go.Proofs.Ytoncignjcgjhhaa.Q (S63 k63 z63)
def told (o : Option Int) : Int × Bool := match o with | some x => (x, true) | none => (0, false)
theorem dayC_1 (a1 a2 a3 a4 a5 a6 a7 a8 y : Int) (hm : M.may ⟨1, a1, a2, a3, a4, a5, a6, a7, a8⟩ = true) (h0 : 1900 ≤ y) (h1 : y ≤ 2199) (p : Option Int) (hp : M.rday ⟨1, a1, a2, a3, a4, a5, a6, a7, a8⟩ y = p) (w : World) :
  Calls Try.prog 155 #[.agg #[.int .i64 1, .int .i64 a1, .int .i64 a2, .int .i64 a3, .int .i64 a4, .int .i64 a5, .int .i64 a6, .int .i64 a7, .int .i64 a8], .int .i64 y] w fun e w' => e = .returned (.tuple #[.int .i64 (told p).1, .bool (told p).2]) ∧ Below w.heap.size w w' := by
 subst hp
 obtain ⟨k, hk⟩ := (L.day_fixed y hm h0 h1).rounds
 exact Q.cal_fixed_day.calls k 1 a1 a2 a3 a4 a5 a6 a7 a8 y _ _ w hk
theorem dayC_2 (a1 a2 a3 a4 a5 a6 a7 a8 y : Int) (hm : M.may ⟨2, a1, a2, a3, a4, a5, a6, a7, a8⟩ = true) (h0 : 1900 ≤ y) (h1 : y ≤ 2199) (p : Option Int) (hp : M.rday ⟨2, a1, a2, a3, a4, a5, a6, a7, a8⟩ y = p) (w : World) :
  Calls Try.prog 158 #[.agg #[.int .i64 2, .int .i64 a1, .int .i64 a2, .int .i64 a3, .int .i64 a4, .int .i64 a5, .int .i64 a6, .int .i64 a7, .int .i64 a8], .int .i64 y] w fun e w' => e = .returned (.tuple #[.int .i64 (told p).1, .bool (told p).2]) ∧ Below w.heap.size w w' := by
 subst hp
 obtain ⟨k, hk⟩ := (L.day_nth y hm h0 h1).rounds
 exact Q.cal_nth_day.calls k 2 a1 a2 a3 a4 a5 a6 a7 a8 y _ _ w hk
theorem dayC_3 (a1 a2 a3 a4 a5 a6 a7 a8 y : Int) (hm : M.may ⟨3, a1, a2, a3, a4, a5, a6, a7, a8⟩ = true) (h0 : 1900 ≤ y) (h1 : y ≤ 2199) (p : Option Int) (hp : M.rday ⟨3, a1, a2, a3, a4, a5, a6, a7, a8⟩ y = p) (w : World) :
  Calls Try.prog 160 #[.agg #[.int .i64 3, .int .i64 a1, .int .i64 a2, .int .i64 a3, .int .i64 a4, .int .i64 a5, .int .i64 a6, .int .i64 a7, .int .i64 a8], .int .i64 y] w fun e w' => e = .returned (.tuple #[.int .i64 (told p).1, .bool (told p).2]) ∧ Below w.heap.size w w' := by
 subst hp
 exact Q.cal_easter_day.calls 3 a1 a2 a3 a4 a5 a6 a7 a8 y _ _ w (L.day_easter y hm h0 h1)
theorem dayC_4 (a1 a2 a3 a4 a5 a6 a7 a8 y : Int) (hm : M.may ⟨4, a1, a2, a3, a4, a5, a6, a7, a8⟩ = true) (b : Bool) (hb : decide (M.civY a2 = y) = b) (w : World) :
  Calls Try.prog 163 #[.agg #[.int .i64 4, .int .i64 a1, .int .i64 a2, .int .i64 a3, .int .i64 a4, .int .i64 a5, .int .i64 a6, .int .i64 a7, .int .i64 a8], .int .i64 y] w fun e w' => e = .returned (.tuple #[.int .i64 a2, .bool b]) ∧ Below w.heap.size w w' := by
 subst hb
 obtain ⟨k, hk⟩ := (L.day_single y hm).rounds
 exact Q.cal_single_day.calls k 4 a1 a2 a3 a4 a5 a6 a7 a8 y _ _ w hk
theorem is_calls (n : Int) (r : Bool) (hr : decide (0 ≤ n ∧ n ≤ 109572) = r) (w : World) : Calls Try.prog 71 #[.int .i64 n] w fun e w' => e = .returned (.bool r) ∧ Drawn0 w w' :=
  Q.cal_is.calls n r w (by unfold Q.cal_is.f; rw [L.within, hr]; rfl)
def Upd (we y : Int) (f f' : Int → Bool) (rs : List M.Rul) : Prop := ∀ x, 0 ≤ x → x ≤ 109572 → f' x = (f x || rs.any (fun r => M.gives we r y x))
theorem Upd.nil (we y : Int) (f : Int → Bool) : Upd we y f f [] := fun x _ _ => by simp
theorem Upd.none_ {we y : Int} {f f' : Int → Bool} {rs : List M.Rul} {r : M.Rul} (h : Upd we y f f' rs) (hg : ∀ x, 0 ≤ x → x ≤ 109572 → M.gives we r y x = false) : Upd we y f f' (rs ++ [r]) := fun x a b => by
  rw [h x a b]; simp [hg x a b]
theorem Upd.some_ {we y n : Int} {f f' : Int → Bool} {rs : List M.Rul} {r : M.Rul} (h : Upd we y f f' rs) (hg : ∀ x, M.gives we r y x = decide (n = x)) : Upd we y f (fun z => f' z || decide (z = n)) (rs ++ [r]) := fun x a b => by
 show (f' x || decide (x = n)) = _
 rw [h x a b, List.any_append]
 simp only [List.any_cons, List.any_nil, Bool.or_false, hg, Bool.or_assoc, eq_comm (a := x)]
theorem take_one {l : List S63} {i : Nat} (hi : i < l.length) {r : S63} (hr : l[i] = r) : (l.map ru).take (i + 1) = (l.map ru).take i ++ [ru r] := by
 subst hr
 rw [List.take_succ_eq_append_getElem (by simpa using hi), List.getElem_map]
theorem gives_out {we y : Int} {r : M.Rul} (h : ¬ (r.kind = 4 ∨ (r.from_ ≤ y ∧ y ≤ r.to_))) (x : Int) : M.gives we r y x = false := by unfold M.gives; rw [if_neg h]
theorem gives_none {we y : Int} {r : M.Rul} (h : M.rday r y = none) (x : Int) : M.gives we r y x = false := by unfold M.gives; rw [h]; split <;> rfl
theorem gives_some {we y d n : Int} {r : M.Rul} (hi : r.kind = 4 ∨ (r.from_ ≤ y ∧ y ≤ r.to_)) (h : M.rday r y = some d) (hn : M.moved we d r.mv = n) (x : Int) : M.gives we r y x = decide (n = x) := by
  unfold M.gives; rw [if_pos hi, h]; simp only [hn]
theorem rday_rng {r : M.Rul} {y d : Int} (hm : M.may r = true) (h0 : 1900 ≤ y) (h1 : y ≤ 2199) (h : M.rday r y = some d) : 0 ≤ d ∧ d ≤ 109700 := by
 have hb := M.before_1900; have hb2 := M.before_le h0
 unfold M.may at hm
 unfold M.rday at h
 by_cases k1 : r.kind = 1
 ·
  rw [if_pos k1] at hm h
  simp only [Bool.and_eq_true, decide_eq_true_eq] at hm
  by_cases hd : r.day ≤ M.mlen y r.month
  ·
   rw [if_pos hd] at h; injection h with h
   have := M.day_rng (show M.isDate y r.month r.day from ⟨h0, h1, hm.1.1, hm.1.2.1, hm.1.2.2.2.2.2.1, hd⟩)
   omega
  ·
   rw [if_neg hd] at h; cases h
 ·
  rw [if_neg k1] at hm h
  by_cases k2 : r.kind = 2
  ·
   rw [if_pos k2] at hm h
   simp only [Bool.and_eq_true, decide_eq_true_eq] at hm
   injection h with h
   have hl := M.mlen_rng y r.month
   have := M.day_rng (show M.isDate y r.month 1 from ⟨h0, h1, hm.1.2.2.1, hm.1.2.2.2.1, by omega, by omega⟩)
   unfold M.nthDay at h
   simp only at h
   split at h <;> omega
  ·
   rw [if_neg k2] at hm h
   by_cases k3 : r.kind = 3
   ·
    rw [if_pos k3] at hm h
    simp only [Bool.and_eq_true, decide_eq_true_eq] at hm
    injection h with h
    obtain ⟨a, b, c, e⟩ := M.easter_spec y h0 h1
    have := M.day_rng a
    by_cases hy : y = 1900
    ·
     subst hy
     have : M.easterDay 1900 = 104 := by decide
     omega
    ·
     have e1 : M.dayOf y 3 22 ≥ M.before y := by have := M.cum_rng y 3; unfold M.dayOf; omega
     unfold M.easterDay at *; omega
   ·
    rw [if_neg k3] at hm h
    by_cases k4 : r.kind = 4
    ·
     rw [if_pos k4] at hm
     simp only [decide_eq_true_eq] at hm
     split at h
     ·
      injection h with h; omega
     ·
      cases h
    ·
     rw [if_neg k4] at hm; cases hm
theorem moved_rng {we d mv : Int} (h : 0 ≤ d) (h1 : d ≤ 109700) : -7 ≤ M.moved we d mv ∧ M.moved we d mv ≤ 110000 := by
 unfold M.moved
 have := M.movedF_rng we d mv 6 1 (by omega)
 split
 ·
  omega
 ·
  split
  ·
   omega
  ·
   omega
theorem year_seen (w0 w : World) (bb md mb : Nat) (we : Int) (A : Option Addr) (c : Nat) (l : List S63) (n : Nat) (S f : Int → Bool) (y : Int) (hB : Bk w0 w bb md mb we A c l n S f) (hy : L.i64 y) (hs : S y = true) :
  Calls Try.prog 109 #[.pointer (some ⟨bb, 0, none⟩), .int .i64 y] w fun e w' => e = .returned (.tuple #[]) ∧ w = w' := by
 have hc2 := hB.c2;have HB := Aside0.mk hB;have HS := Aside0.mk hs;clear hB hs
 go_enter Try.func109, Try.ntmps109
 go_wp2_with (at_lookup; refine wp_look _ rfl _ _ rfl md n S rfl HB.out.dn _ rfl hy ?_; rw [HS.out]; simp only [b01, if_true])
 refine bodyPost_ret (results_none rfl _ _ _) rfl ?_
 exact ⟨rfl, rfl⟩
set_option maxHeartbeats 4000000 in
set_option maxRecDepth 100000 in
theorem year_new (w0 w : World) (bb md mb : Nat) (we : Int) (A : Option Addr) (c : Nat) (l : List S63) (n : Nat) (S f : Int → Bool) (y : Int) (hB : Bk w0 w bb md mb we A c l n S f) (hO : Ok w0 we A l) (h0 : 1900 ≤ y) (h1 : y ≤ 2199) (hs : S y = false) (hn : n + 100 < maxLen) :
  Calls Try.prog 109 #[.pointer (some ⟨bb, 0, none⟩), .int .i64 y] w fun e w' => e = .returned (.tuple #[]) ∧ ∃ f', Bk w0 w' bb md mb we A c l (n + 65) (fun z => S z || decide (z = y)) f' ∧ Upd we y f f' (l.map ru) := by
 have hc2 := hB.c2;have HB := Aside0.mk hB;have HS := Aside0.mk hs;have HO := Aside0.mk hO
 have hwe0 := hO.h0; have hwe1 := hO.h1; have hlen := hO.len
 have hy64 : L.i64 y := by unfold L.i64; omega
 clear hB hs hO
 go_enter Try.func109, Try.ntmps109
 go_wp2_with (first | (at_lookup; refine wp_look _ rfl _ _ rfl md n S rfl HB.out.dn _ rfl hy64 ?_; rw [HS.out]; simp only [b01, Bool.false_eq_true, if_false]) | (at_mapUpdate; refine wp_store _ rfl _ _ _ rfl md n S rfl HB.out.dn (by omega) _ rfl rfl hy64 ?_; intro w1 hm1 hg1; have HB1 := Aside0.mk (HB.out.stored_d hg1 hm1); clear hm1 hg1; have hd1 := HB1.out.c1))
 go_loopg [26] (l.length) (fun kq v w' => ∃ i : Nat, i ≤ l.length ∧ kq + i = l.length ∧ v = .int .i64 i ∧ Aside0 (∃ f', Bk w0 w' bb md mb we A c l (n + 1 + i) (fun z => S z || decide (z = y)) f' ∧ Upd we y f f' ((l.map ru).take i)))
 case atStart => exact ⟨0, by omega, by omega, rfl, ⟨f, HB1.out, by simpa using Upd.nil we y f⟩⟩
 case round =>
  obtain ⟨i, hi, hk, rfl, HF⟩ := hrel
  obtain ⟨f', hb', hu'⟩ := HF.out
  have HB2 := Aside0.mk hb';have HU := Aside0.mk hu';clear hb' hu' HF HB1 hd1 HB hc2
  by_cases hlt : i < l.length
  ·
   obtain ⟨ad, a0, a1, a2, a3, a4, a5, a6, a7, a8, rfl, hx, x0, x1, x2, x3, x4, x5, x6, x7, x8⟩ := rule_at HO.out.rd i hlt wr HB2.out.bel
   have hm := HO.out.may l[i] (List.getElem_mem hlt)
   rw [hx] at hm
   have ht := take_one hlt hx
   simp only [ru] at hm ht
   have HM := Aside0.mk hm;have HT := Aside0.mk ht;clear hm ht hx
   by_cases k1 : a0 = 1
   ·
    subst k1;have hmeth := day_132
    by_cases hyr : a6 ≤ y ∧ y ≤ a7
    ·
     have hyb : decide (a6 ≤ y ∧ y ≤ a7) = true := by simpa using hyr
     have HYB := Aside0.mk hyb; have HYR := Aside0.mk hyr; clear hyb hyr
     go_wp2_with fail
     refine (within_calls _ _ _ _ HYB.out _).mono ?_; rintro e w' ⟨rfl, ⟨n0, rfl⟩⟩
     go_wp2_with fail
     refine (kind_1 _ _ _ _ _ _ _ _ _).mono ?_; rintro e w3 ⟨rfl, hb3⟩
     have HB3 : Aside0 (Bk w0 w3 bb md mb we (some ad) c l (n + 1 + i) (fun z => S z || decide (z = y)) f') := ⟨Bk.step (by repeat (first | exact HB2.out | refine Bk.drewN ?_ _ | refine Bk.drew ?_ | refine Bk.alloc ?_ _)) hb3⟩; have HX3 : Aside0 (w3.heap[wr.heap.size]? = some (.cells #[.int .i64 1, .int .i64 a1, .int .i64 a2, .int .i64 a3, .int .i64 a4, .int .i64 a5, .int .i64 a6, .int .i64 a7, .int .i64 a8] 63 (0, 0))) := ⟨blk_below (by repeat (first | exact blk_new _ _ | refine blk_drewN ?_ _ | refine blk_drew ?_)) hb3⟩; clear hb3
     go_wp2_with fail
     cases hp : M.rday ⟨1, a1, a2, a3, a4, a5, a6, a7, a8⟩ y with
     | none =>
      have HD := Aside0.mk hp; clear hp
      refine (dayC_1 _ _ _ _ _ _ _ _ _ HM.out h0 h1 _ HD.out _).mono ?_; rintro e w4 ⟨rfl, hb4⟩
      have HB4 := Aside0.mk (Bk.step (w1 := w4) HB3.out hb4); have hc8 : w4.cell? ⟨wr.heap.size, 8, none⟩ = some (.int .i64 a8) := (blk_cell (blk_below HX3.out hb4) 8).trans rfl; clear hb4
      simp only [told]
      go_wp2_with fail
      go_roundg (gk - 1)
      case measure => omega
      case rel => exact ⟨i + 1, by omega, by omega, by go_num, ⟨f', Bk.mono (n := n + 1 + i) (HB4.out) (by omega), by rw [HT.out]; exact HU.out.none_ (fun x _ _ => gives_none HD.out x)⟩⟩
     | some d =>
      have HD := Aside0.mk hp; clear hp
      refine (dayC_1 _ _ _ _ _ _ _ _ _ HM.out h0 h1 _ HD.out _).mono ?_; rintro e w4 ⟨rfl, hb4⟩
      have HB4 := Aside0.mk (Bk.step (w1 := w4) HB3.out hb4); have hc8 : w4.cell? ⟨wr.heap.size, 8, none⟩ = some (.int .i64 a8) := (blk_cell (blk_below HX3.out hb4) 8).trans rfl; clear hb4
      simp only [told]
      have hrng := rday_rng HM.out h0 h1 HD.out
      obtain ⟨nn, hnn⟩ : ∃ nn, M.moved we d a8 = nn := ⟨_, rfl⟩
      have hnr := moved_rng (we := we) (mv := a8) hrng.1 hrng.2
      rw [hnn] at hnr
      have HN := Aside0.mk hnn;clear hnn
      have hrng0 := hrng.1; have hrng1 := hrng.2; have hnr0 := hnr.1; have hnr1 := hnr.2; clear hrng hnr
      go_wp2_with fail
      refine (moved_calls _ we _ _ _ HB4.out.c0 hwe0 hwe1 (by omega) (by omega)).mono ?_; rintro e w5 ⟨rfl, rfl⟩; rw [HN.out]
      go_wp2_with fail
      by_cases hd : 0 ≤ nn ∧ nn ≤ 109572
      ·
       have hdb : decide (0 ≤ nn ∧ nn ≤ 109572) = true := by simpa using hd
       have hn64 : L.i64 nn := by unfold L.i64; omega
       have HDB := Aside0.mk hdb; clear hdb hd
       refine (is_calls _ _ HDB.out _).mono ?_; rintro e w6 ⟨rfl, ⟨nq, rfl⟩⟩
       have HB5 := Aside0.mk (HB4.out.drewN nq); have hc3 := HB5.out.c3
       go_wp2_with (at_mapUpdate; refine wp_store _ rfl _ _ _ rfl mb (n + 1 + i) f' rfl HB5.out.dy (by omega) _ rfl rfl hn64 ?_; intro w7 hm7 hg7; have HB7 := Aside0.mk (HB5.out.stored_m hg7 hm7); clear hm7 hg7)
       go_roundg (gk - 1)
       case measure => omega
       case rel => exact ⟨i + 1, by omega, by omega, by go_num, ⟨_, HB7.out, by rw [HT.out]; exact HU.out.some_ (fun x => gives_some (Or.inr HYR.out) HD.out HN.out x)⟩⟩
      ·
       have hdb : decide (0 ≤ nn ∧ nn ≤ 109572) = false := by simpa using hd
       have HDB := Aside0.mk hdb; have HND := Aside0.mk hd; clear hdb hd
       refine (is_calls _ _ HDB.out _).mono ?_; rintro e w6 ⟨rfl, ⟨nq, rfl⟩⟩
       have HB5 := Aside0.mk (HB4.out.drewN nq)
       go_wp2_with fail
       go_roundg (gk - 1)
       case measure => omega
       case rel => exact ⟨i + 1, by omega, by omega, by go_num, ⟨f', Bk.mono (n := n + 1 + i) (HB5.out) (by omega), by rw [HT.out]; exact HU.out.none_ (fun x _ _ => by rw [gives_some (Or.inr HYR.out) HD.out HN.out x]; rw [decide_eq_false_iff_not]; intro e; have := HND.out; omega)⟩⟩
    ·
     have hyb : decide (a6 ≤ y ∧ y ≤ a7) = false := by simpa using hyr
     have HYB := Aside0.mk hyb; have HYR := Aside0.mk hyr; clear hyb hyr
     go_wp2_with fail
     refine (within_calls _ _ _ _ HYB.out _).mono ?_; rintro e w' ⟨rfl, ⟨n0, rfl⟩⟩
     go_wp2_with fail
     go_roundg (gk - 1)
     case measure => omega
     case rel => exact ⟨i + 1, by omega, by omega, by go_num, ⟨f', Bk.mono (n := n + 1 + i) (by repeat (first | exact HB2.out | refine Bk.drewN ?_ _ | refine Bk.drew ?_ | refine Bk.alloc ?_ _)) (by omega), by rw [HT.out]; exact HU.out.none_ (fun x _ _ => gives_out (fun h => by rcases h with h | h; exact absurd h (by simp); exact HYR.out h) x)⟩⟩
   ·
    by_cases k2 : a0 = 2
    ·
     subst k2;have hmeth := day_133
     by_cases hyr : a6 ≤ y ∧ y ≤ a7
     ·
      have hyb : decide (a6 ≤ y ∧ y ≤ a7) = true := by simpa using hyr
      have HYB := Aside0.mk hyb; have HYR := Aside0.mk hyr; clear hyb hyr
      go_wp2_with fail
      refine (within_calls _ _ _ _ HYB.out _).mono ?_; rintro e w' ⟨rfl, ⟨n0, rfl⟩⟩
      go_wp2_with fail
      refine (kind_2 _ _ _ _ _ _ _ _ _).mono ?_; rintro e w3 ⟨rfl, hb3⟩
      have HB3 : Aside0 (Bk w0 w3 bb md mb we (some ad) c l (n + 1 + i) (fun z => S z || decide (z = y)) f') := ⟨Bk.step (by repeat (first | exact HB2.out | refine Bk.drewN ?_ _ | refine Bk.drew ?_ | refine Bk.alloc ?_ _)) hb3⟩; have HX3 : Aside0 (w3.heap[wr.heap.size]? = some (.cells #[.int .i64 2, .int .i64 a1, .int .i64 a2, .int .i64 a3, .int .i64 a4, .int .i64 a5, .int .i64 a6, .int .i64 a7, .int .i64 a8] 63 (0, 0))) := ⟨blk_below (by repeat (first | exact blk_new _ _ | refine blk_drewN ?_ _ | refine blk_drew ?_)) hb3⟩; clear hb3
      go_wp2_with fail
      cases hp : M.rday ⟨2, a1, a2, a3, a4, a5, a6, a7, a8⟩ y with
      | none =>
       have HD := Aside0.mk hp; clear hp
       refine (dayC_2 _ _ _ _ _ _ _ _ _ HM.out h0 h1 _ HD.out _).mono ?_; rintro e w4 ⟨rfl, hb4⟩
       have HB4 := Aside0.mk (Bk.step (w1 := w4) HB3.out hb4); have hc8 : w4.cell? ⟨wr.heap.size, 8, none⟩ = some (.int .i64 a8) := (blk_cell (blk_below HX3.out hb4) 8).trans rfl; clear hb4
       simp only [told]
       go_wp2_with fail
       go_roundg (gk - 1)
       case measure => omega
       case rel => exact ⟨i + 1, by omega, by omega, by go_num, ⟨f', Bk.mono (n := n + 1 + i) (HB4.out) (by omega), by rw [HT.out]; exact HU.out.none_ (fun x _ _ => gives_none HD.out x)⟩⟩
      | some d =>
       have HD := Aside0.mk hp; clear hp
       refine (dayC_2 _ _ _ _ _ _ _ _ _ HM.out h0 h1 _ HD.out _).mono ?_; rintro e w4 ⟨rfl, hb4⟩
       have HB4 := Aside0.mk (Bk.step (w1 := w4) HB3.out hb4); have hc8 : w4.cell? ⟨wr.heap.size, 8, none⟩ = some (.int .i64 a8) := (blk_cell (blk_below HX3.out hb4) 8).trans rfl; clear hb4
       simp only [told]
       have hrng := rday_rng HM.out h0 h1 HD.out
       obtain ⟨nn, hnn⟩ : ∃ nn, M.moved we d a8 = nn := ⟨_, rfl⟩
       have hnr := moved_rng (we := we) (mv := a8) hrng.1 hrng.2
       rw [hnn] at hnr
       have HN := Aside0.mk hnn;clear hnn
       have hrng0 := hrng.1; have hrng1 := hrng.2; have hnr0 := hnr.1; have hnr1 := hnr.2; clear hrng hnr
       go_wp2_with fail
       refine (moved_calls _ we _ _ _ HB4.out.c0 hwe0 hwe1 (by omega) (by omega)).mono ?_; rintro e w5 ⟨rfl, rfl⟩; rw [HN.out]
       go_wp2_with fail
       by_cases hd : 0 ≤ nn ∧ nn ≤ 109572
       ·
        have hdb : decide (0 ≤ nn ∧ nn ≤ 109572) = true := by simpa using hd
        have hn64 : L.i64 nn := by unfold L.i64; omega
        have HDB := Aside0.mk hdb; clear hdb hd
        refine (is_calls _ _ HDB.out _).mono ?_; rintro e w6 ⟨rfl, ⟨nq, rfl⟩⟩
        have HB5 := Aside0.mk (HB4.out.drewN nq); have hc3 := HB5.out.c3
        go_wp2_with (at_mapUpdate; refine wp_store _ rfl _ _ _ rfl mb (n + 1 + i) f' rfl HB5.out.dy (by omega) _ rfl rfl hn64 ?_; intro w7 hm7 hg7; have HB7 := Aside0.mk (HB5.out.stored_m hg7 hm7); clear hm7 hg7)
        go_roundg (gk - 1)
        case measure => omega
        case rel => exact ⟨i + 1, by omega, by omega, by go_num, ⟨_, HB7.out, by rw [HT.out]; exact HU.out.some_ (fun x => gives_some (Or.inr HYR.out) HD.out HN.out x)⟩⟩
       ·
        have hdb : decide (0 ≤ nn ∧ nn ≤ 109572) = false := by simpa using hd
        have HDB := Aside0.mk hdb; have HND := Aside0.mk hd; clear hdb hd
        refine (is_calls _ _ HDB.out _).mono ?_; rintro e w6 ⟨rfl, ⟨nq, rfl⟩⟩
        have HB5 := Aside0.mk (HB4.out.drewN nq)
        go_wp2_with fail
        go_roundg (gk - 1)
        case measure => omega
        case rel => exact ⟨i + 1, by omega, by omega, by go_num, ⟨f', Bk.mono (n := n + 1 + i) (HB5.out) (by omega), by rw [HT.out]; exact HU.out.none_ (fun x _ _ => by rw [gives_some (Or.inr HYR.out) HD.out HN.out x]; rw [decide_eq_false_iff_not]; intro e; have := HND.out; omega)⟩⟩
     ·
      have hyb : decide (a6 ≤ y ∧ y ≤ a7) = false := by simpa using hyr
      have HYB := Aside0.mk hyb; have HYR := Aside0.mk hyr; clear hyb hyr
      go_wp2_with fail
      refine (within_calls _ _ _ _ HYB.out _).mono ?_; rintro e w' ⟨rfl, ⟨n0, rfl⟩⟩
      go_wp2_with fail
      go_roundg (gk - 1)
      case measure => omega
      case rel => exact ⟨i + 1, by omega, by omega, by go_num, ⟨f', Bk.mono (n := n + 1 + i) (by repeat (first | exact HB2.out | refine Bk.drewN ?_ _ | refine Bk.drew ?_ | refine Bk.alloc ?_ _)) (by omega), by rw [HT.out]; exact HU.out.none_ (fun x _ _ => gives_out (fun h => by rcases h with h | h; exact absurd h (by simp); exact HYR.out h) x)⟩⟩
    ·
     by_cases k3 : a0 = 3
     ·
      subst k3;have hmeth := day_134
      by_cases hyr : a6 ≤ y ∧ y ≤ a7
      ·
       have hyb : decide (a6 ≤ y ∧ y ≤ a7) = true := by simpa using hyr
       have HYB := Aside0.mk hyb; have HYR := Aside0.mk hyr; clear hyb hyr
       go_wp2_with fail
       refine (within_calls _ _ _ _ HYB.out _).mono ?_; rintro e w' ⟨rfl, ⟨n0, rfl⟩⟩
       go_wp2_with fail
       refine (kind_3 _ _ _ _ _ _ _ _ _).mono ?_; rintro e w3 ⟨rfl, hb3⟩
       have HB3 : Aside0 (Bk w0 w3 bb md mb we (some ad) c l (n + 1 + i) (fun z => S z || decide (z = y)) f') := ⟨Bk.step (by repeat (first | exact HB2.out | refine Bk.drewN ?_ _ | refine Bk.drew ?_ | refine Bk.alloc ?_ _)) hb3⟩; have HX3 : Aside0 (w3.heap[wr.heap.size]? = some (.cells #[.int .i64 3, .int .i64 a1, .int .i64 a2, .int .i64 a3, .int .i64 a4, .int .i64 a5, .int .i64 a6, .int .i64 a7, .int .i64 a8] 63 (0, 0))) := ⟨blk_below (by repeat (first | exact blk_new _ _ | refine blk_drewN ?_ _ | refine blk_drew ?_)) hb3⟩; clear hb3
       go_wp2_with fail
       cases hp : M.rday ⟨3, a1, a2, a3, a4, a5, a6, a7, a8⟩ y with
       | none =>
        have HD := Aside0.mk hp; clear hp
        refine (dayC_3 _ _ _ _ _ _ _ _ _ HM.out h0 h1 _ HD.out _).mono ?_; rintro e w4 ⟨rfl, hb4⟩
        have HB4 := Aside0.mk (Bk.step (w1 := w4) HB3.out hb4); have hc8 : w4.cell? ⟨wr.heap.size, 8, none⟩ = some (.int .i64 a8) := (blk_cell (blk_below HX3.out hb4) 8).trans rfl; clear hb4
        simp only [told]
        go_wp2_with fail
        go_roundg (gk - 1)
        case measure => omega
        case rel => exact ⟨i + 1, by omega, by omega, by go_num, ⟨f', Bk.mono (n := n + 1 + i) (HB4.out) (by omega), by rw [HT.out]; exact HU.out.none_ (fun x _ _ => gives_none HD.out x)⟩⟩
       | some d =>
        have HD := Aside0.mk hp; clear hp
        refine (dayC_3 _ _ _ _ _ _ _ _ _ HM.out h0 h1 _ HD.out _).mono ?_; rintro e w4 ⟨rfl, hb4⟩
        have HB4 := Aside0.mk (Bk.step (w1 := w4) HB3.out hb4); have hc8 : w4.cell? ⟨wr.heap.size, 8, none⟩ = some (.int .i64 a8) := (blk_cell (blk_below HX3.out hb4) 8).trans rfl; clear hb4
        simp only [told]
        have hrng := rday_rng HM.out h0 h1 HD.out
        obtain ⟨nn, hnn⟩ : ∃ nn, M.moved we d a8 = nn := ⟨_, rfl⟩
        have hnr := moved_rng (we := we) (mv := a8) hrng.1 hrng.2
        rw [hnn] at hnr
        have HN := Aside0.mk hnn;clear hnn
        have hrng0 := hrng.1; have hrng1 := hrng.2; have hnr0 := hnr.1; have hnr1 := hnr.2; clear hrng hnr
        go_wp2_with fail
        refine (moved_calls _ we _ _ _ HB4.out.c0 hwe0 hwe1 (by omega) (by omega)).mono ?_; rintro e w5 ⟨rfl, rfl⟩; rw [HN.out]
        go_wp2_with fail
        by_cases hd : 0 ≤ nn ∧ nn ≤ 109572
        ·
         have hdb : decide (0 ≤ nn ∧ nn ≤ 109572) = true := by simpa using hd
         have hn64 : L.i64 nn := by unfold L.i64; omega
         have HDB := Aside0.mk hdb; clear hdb hd
         refine (is_calls _ _ HDB.out _).mono ?_; rintro e w6 ⟨rfl, ⟨nq, rfl⟩⟩
         have HB5 := Aside0.mk (HB4.out.drewN nq); have hc3 := HB5.out.c3
         go_wp2_with (at_mapUpdate; refine wp_store _ rfl _ _ _ rfl mb (n + 1 + i) f' rfl HB5.out.dy (by omega) _ rfl rfl hn64 ?_; intro w7 hm7 hg7; have HB7 := Aside0.mk (HB5.out.stored_m hg7 hm7); clear hm7 hg7)
         go_roundg (gk - 1)
         case measure => omega
         case rel => exact ⟨i + 1, by omega, by omega, by go_num, ⟨_, HB7.out, by rw [HT.out]; exact HU.out.some_ (fun x => gives_some (Or.inr HYR.out) HD.out HN.out x)⟩⟩
        ·
         have hdb : decide (0 ≤ nn ∧ nn ≤ 109572) = false := by simpa using hd
         have HDB := Aside0.mk hdb; have HND := Aside0.mk hd; clear hdb hd
         refine (is_calls _ _ HDB.out _).mono ?_; rintro e w6 ⟨rfl, ⟨nq, rfl⟩⟩
         have HB5 := Aside0.mk (HB4.out.drewN nq)
         go_wp2_with fail
         go_roundg (gk - 1)
         case measure => omega
         case rel => exact ⟨i + 1, by omega, by omega, by go_num, ⟨f', Bk.mono (n := n + 1 + i) (HB5.out) (by omega), by rw [HT.out]; exact HU.out.none_ (fun x _ _ => by rw [gives_some (Or.inr HYR.out) HD.out HN.out x]; rw [decide_eq_false_iff_not]; intro e; have := HND.out; omega)⟩⟩
      ·
       have hyb : decide (a6 ≤ y ∧ y ≤ a7) = false := by simpa using hyr
       have HYB := Aside0.mk hyb; have HYR := Aside0.mk hyr; clear hyb hyr
       go_wp2_with fail
       refine (within_calls _ _ _ _ HYB.out _).mono ?_; rintro e w' ⟨rfl, ⟨n0, rfl⟩⟩
       go_wp2_with fail
       go_roundg (gk - 1)
       case measure => omega
       case rel => exact ⟨i + 1, by omega, by omega, by go_num, ⟨f', Bk.mono (n := n + 1 + i) (by repeat (first | exact HB2.out | refine Bk.drewN ?_ _ | refine Bk.drew ?_ | refine Bk.alloc ?_ _)) (by omega), by rw [HT.out]; exact HU.out.none_ (fun x _ _ => gives_out (fun h => by rcases h with h | h; exact absurd h (by simp); exact HYR.out h) x)⟩⟩
     ·
      by_cases k4 : a0 = 4
      ·
       subst k4;have hmeth := day_135
       go_wp2_with fail
       refine (kind_4 _ _ _ _ _ _ _ _ _).mono ?_; rintro e w3 ⟨rfl, hb3⟩
       have HB3 : Aside0 (Bk w0 w3 bb md mb we (some ad) c l (n + 1 + i) (fun z => S z || decide (z = y)) f') := ⟨Bk.step (by repeat (first | exact HB2.out | refine Bk.drewN ?_ _ | refine Bk.drew ?_ | refine Bk.alloc ?_ _)) hb3⟩; have HX3 : Aside0 (w3.heap[wr.heap.size]? = some (.cells #[.int .i64 4, .int .i64 a1, .int .i64 a2, .int .i64 a3, .int .i64 a4, .int .i64 a5, .int .i64 a6, .int .i64 a7, .int .i64 a8] 63 (0, 0))) := ⟨blk_below (by repeat (first | exact blk_new _ _ | refine blk_drewN ?_ _ | refine blk_drew ?_)) hb3⟩; clear hb3
       go_wp2_with fail
       cases hp : decide (M.civY a2 = y) with
       | false =>
        have HP := Aside0.mk hp
        have HD := Aside0.mk (show M.rday ⟨4, a1, a2, a3, a4, a5, a6, a7, a8⟩ y = none by simp [M.rday]; simpa using hp); clear hp
        refine (dayC_4 _ _ _ _ _ _ _ _ _ HM.out _ HP.out _).mono ?_; rintro e w4 ⟨rfl, hb4⟩
        have HB4 := Aside0.mk (Bk.step (w1 := w4) HB3.out hb4); have hc8 : w4.cell? ⟨wr.heap.size, 8, none⟩ = some (.int .i64 a8) := (blk_cell (blk_below HX3.out hb4) 8).trans rfl; clear hb4
        go_wp2_with fail
        go_roundg (gk - 1)
        case measure => omega
        case rel => exact ⟨i + 1, by omega, by omega, by go_num, ⟨f', Bk.mono (n := n + 1 + i) (HB4.out) (by omega), by rw [HT.out]; exact HU.out.none_ (fun x _ _ => gives_none HD.out x)⟩⟩
       | true =>
        have HP := Aside0.mk hp
        have HD := Aside0.mk (show M.rday ⟨4, a1, a2, a3, a4, a5, a6, a7, a8⟩ y = some a2 by simp [M.rday]; simpa using hp); clear hp
        refine (dayC_4 _ _ _ _ _ _ _ _ _ HM.out _ HP.out _).mono ?_; rintro e w4 ⟨rfl, hb4⟩
        have HB4 := Aside0.mk (Bk.step (w1 := w4) HB3.out hb4); have hc8 : w4.cell? ⟨wr.heap.size, 8, none⟩ = some (.int .i64 a8) := (blk_cell (blk_below HX3.out hb4) 8).trans rfl; clear hb4
        have hrng := rday_rng HM.out h0 h1 HD.out
        obtain ⟨nn, hnn⟩ : ∃ nn, M.moved we a2 a8 = nn := ⟨_, rfl⟩
        have hnr := moved_rng (we := we) (mv := a8) hrng.1 hrng.2
        rw [hnn] at hnr
        have HN := Aside0.mk hnn;clear hnn
        have hrng0 := hrng.1; have hrng1 := hrng.2; have hnr0 := hnr.1; have hnr1 := hnr.2; clear hrng hnr
        go_wp2_with fail
        refine (moved_calls _ we _ _ _ HB4.out.c0 hwe0 hwe1 (by omega) (by omega)).mono ?_; rintro e w5 ⟨rfl, rfl⟩; rw [HN.out]
        go_wp2_with fail
        by_cases hd : 0 ≤ nn ∧ nn ≤ 109572
        ·
         have hdb : decide (0 ≤ nn ∧ nn ≤ 109572) = true := by simpa using hd
         have hn64 : L.i64 nn := by unfold L.i64; omega
         have HDB := Aside0.mk hdb; clear hdb hd
         refine (is_calls _ _ HDB.out _).mono ?_; rintro e w6 ⟨rfl, ⟨nq, rfl⟩⟩
         have HB5 := Aside0.mk (HB4.out.drewN nq); have hc3 := HB5.out.c3
         go_wp2_with (at_mapUpdate; refine wp_store _ rfl _ _ _ rfl mb (n + 1 + i) f' rfl HB5.out.dy (by omega) _ rfl rfl hn64 ?_; intro w7 hm7 hg7; have HB7 := Aside0.mk (HB5.out.stored_m hg7 hm7); clear hm7 hg7)
         go_roundg (gk - 1)
         case measure => omega
         case rel => exact ⟨i + 1, by omega, by omega, by go_num, ⟨_, HB7.out, by rw [HT.out]; exact HU.out.some_ (fun x => gives_some (Or.inl rfl) HD.out HN.out x)⟩⟩
        ·
         have hdb : decide (0 ≤ nn ∧ nn ≤ 109572) = false := by simpa using hd
         have HDB := Aside0.mk hdb; have HND := Aside0.mk hd; clear hdb hd
         refine (is_calls _ _ HDB.out _).mono ?_; rintro e w6 ⟨rfl, ⟨nq, rfl⟩⟩
         have HB5 := Aside0.mk (HB4.out.drewN nq)
         go_wp2_with fail
         go_roundg (gk - 1)
         case measure => omega
         case rel => exact ⟨i + 1, by omega, by omega, by go_num, ⟨f', Bk.mono (n := n + 1 + i) (HB5.out) (by omega), by rw [HT.out]; exact HU.out.none_ (fun x _ _ => by rw [gives_some (Or.inl rfl) HD.out HN.out x]; rw [decide_eq_false_iff_not]; intro e; have := HND.out; omega)⟩⟩
      ·
       have := HM.out
       unfold M.may at this
       simp [k1, k2, k3, k4] at this
  ·
   have e : i = l.length := by omega
   have HE := Aside0.mk (show (l.map ru).take i = l.map ru by rw [e, ← List.length_map (f := ru), List.take_length])
   have hge : decide ((i : Int) < (l.length : Int)) = false := by simp; omega
   have hge2 : decide (i < l.length) = false := by simp; omega
   clear e
   go_wp2_with fail
   go_end0
   refine ⟨rfl, f', HB2.out.mono (by omega), ?_⟩
   have := HU.out
   rw [HE.out] at this
   exact this
end Go.Proofs.Ytoncignjcgjhhaa.H
namespace Go.Proofs.Ytoncignjcgjhhaa.M
theorem gives_iff {we : Int} {r : Rul} {y x : Int} (h : gives we r y x = true) : (r.kind = 4 ∨ (r.from_ ≤ y ∧ y ≤ r.to_)) ∧ ∃ d, rday r y = some d ∧ moved we d r.mv = x := by
 unfold gives at h
 split at h
 ·
  rename_i hi
  refine ⟨hi, ?_⟩
  cases hd : rday r y with
  | none => rw [hd] at h; cases h
  | some d => rw [hd] at h; exact ⟨d, rfl, of_decide_eq_true h⟩
 ·
  cases h
theorem may_years {r : Rul} (h : may r = true) (hk : ¬ r.kind = 4) : 1900 ≤ r.from_ ∧ r.to_ ≤ 2199 := by
 unfold may at h
 have hy : yearsOk r = true := by
  split at h
  ·
   simp only [Bool.and_eq_true] at h; exact h.2
  ·
   split at h
   ·
    simp only [Bool.and_eq_true] at h; exact h.2
   ·
    split at h
    ·
     simp only [Bool.and_eq_true] at h; exact h.2
    ·
     cases h
 unfold yearsOk at hy
 have := of_decide_eq_true hy
 omega
theorem gives_years {we : Int} {r : Rul} {y x : Int} (hm : may r = true) (h : gives we r y x = true) : 1900 ≤ y ∧ y ≤ 2199 := by
 obtain ⟨hi, d, hd, hx⟩ := gives_iff h
 by_cases hk : r.kind = 4
 ·
  unfold rday at hd
  rw [if_neg (by omega), if_neg (by omega), if_neg (by omega)] at hd
  split at hd
  ·
   rename_i hc
   unfold may at hm
   rw [if_neg (by omega), if_neg (by omega), if_neg (by omega), if_pos hk] at hm
   have := of_decide_eq_true hm
   have hs := yearOf_spec r.day (by omega) (by omega)
   unfold civY at hc; omega
  ·
   cases hd
 ·
  have := may_years hm hk
  rcases hi with hi | hi
  ·
   exact absurd hi hk
  ·
   omega
theorem rday_near {r : Rul} {y d : Int} (hm : may r = true) (h0 : 1900 ≤ y) (h1 : y ≤ 2199) (h : rday r y = some d) : before y - 20 ≤ d ∧ d < before (y + 1) := by
 have hs := before_succ y;have hlp := lp_01 y
 unfold may at hm
 unfold rday at h
 by_cases k1 : r.kind = 1
 ·
  rw [if_pos k1] at hm h
  simp only [Bool.and_eq_true, decide_eq_true_eq] at hm
  by_cases hd : r.day ≤ mlen y r.month
  ·
   rw [if_pos hd] at h; injection h with h
   have := day_rng (show isDate y r.month r.day from ⟨h0, h1, hm.1.1, hm.1.2.1, hm.1.2.2.2.2.2.1, hd⟩)
   omega
  ·
   rw [if_neg hd] at h; cases h
 ·
  rw [if_neg k1] at hm h
  by_cases k2 : r.kind = 2
  ·
   rw [if_pos k2] at hm h
   simp only [Bool.and_eq_true, decide_eq_true_eq] at hm
   injection h with h
   have hl := mlen_rng y r.month
   have a1 := day_rng (show isDate y r.month 1 from ⟨h0, h1, hm.1.2.2.1, hm.1.2.2.2.1, by omega, by omega⟩)
   have a2 := day_rng (show isDate y r.month (mlen y r.month) from ⟨h0, h1, hm.1.2.2.1, hm.1.2.2.2.1, by omega, by omega⟩)
   unfold dayOf at a1 a2
   unfold nthDay dayOf at h
   simp only at h
   split at h <;> omega
  ·
   rw [if_neg k2] at hm h
   by_cases k3 : r.kind = 3
   ·
    rw [if_pos k3] at hm h
    simp only [Bool.and_eq_true, decide_eq_true_eq] at hm
    injection h with h
    obtain ⟨a, b, c, e⟩ := easter_spec y h0 h1
    have c3 : cum y 3 = 59 + lp y := by simp [cum]
    have c4 : cum y 4 = 90 + lp y := by simp [cum]
    unfold dayOf at b c
    omega
   ·
    rw [if_neg k3] at hm h
    by_cases k4 : r.kind = 4
    ·
     rw [if_pos k4] at hm
     simp only [decide_eq_true_eq] at hm
     split at h
     ·
      rename_i hc
      injection h with h
      have := yearOf_spec r.day (by omega) (by omega)
      unfold civY at hc
      rw [hc] at this
      omega
     ·
      cases h
    ·
     rw [if_neg k4] at hm; cases hm
theorem moved_near (we d mv : Int) : d - 7 ≤ moved we d mv ∧ moved we d mv ≤ d + 7 := by
 unfold moved
 have := movedF_rng we d mv 6 1 (by omega)
 split
 ·
  omega
 ·
  split <;> omega
theorem gives_near {we : Int} {r : Rul} {y x : Int} (hm : may r = true) (h : gives we r y x = true) (h0 : 0 ≤ x) (h1 : x ≤ 109572) : y = civY x - 1 ∨ y = civY x ∨ y = civY x + 1 := by
 obtain ⟨a, b⟩ := gives_years hm h
 obtain ⟨hi, d, hd, hx⟩ := gives_iff h
 have hn := rday_near hm a b hd;have hv := moved_near we d r.mv
 obtain ⟨p, q, s, t⟩ := yearOf_spec x h0 h1
 have e : civY x = yearOf x := rfl
 rw [e]
 by_cases hl : yearOf x + 1 ≤ y - 1
 ·
  have h2 := before_le hl
  have h3 := before_le (show y - 1 ≤ y by omega)
  omega
 ·
  by_cases hg : y + 2 ≤ yearOf x
  ·
   have h2 := before_le hg
   have h3 := before_le (show y + 1 ≤ y + 2 by omega)
   omega
  ·
   omega
def Rel (we : Int) (l : List Rul) (S f : Int → Bool) : Prop := ∀ x, 0 ≤ x → x ≤ 109572 → (f x = true ↔ ∃ z, S z = true ∧ l.any (fun r => gives we r z x) = true)
theorem rel_hol {we : Int} {l : List Rul} {S f : Int → Bool} (hm : ∀ r ∈ l, may r = true) (h : Rel we l S f) {x : Int} (h0 : 0 ≤ x) (h1 : x ≤ 109572)
  (hS : ∀ z, civY x - 1 ≤ z → z ≤ civY x + 1 → 1900 ≤ z → z ≤ 2199 → S z = true) : f x = hol we l x := by
 rw [Bool.eq_iff_iff, h x h0 h1]
 unfold hol
 simp only [List.any_eq_true, Bool.or_eq_true]
 constructor
 ·
  rintro ⟨z, hz, r, hr, hg⟩
  refine ⟨r, hr, ?_⟩
  rcases gives_near (hm r hr) hg h0 h1 with e | e | e
  ·
   exact .inl (.inl (e ▸ hg))
  ·
   exact .inl (.inr (e ▸ hg))
  ·
   exact .inr (e ▸ hg)
 ·
  rintro ⟨r, hr, (hg | hg) | hg⟩
  ·
   have := gives_years (hm r hr) hg
   exact ⟨_, hS _ (by omega) (by omega) this.1 this.2, r, hr, hg⟩
  ·
   have := gives_years (hm r hr) hg
   exact ⟨_, hS _ (by omega) (by omega) this.1 this.2, r, hr, hg⟩
  ·
   have := gives_years (hm r hr) hg
   exact ⟨_, hS _ (by omega) (by omega) this.1 this.2, r, hr, hg⟩
def isDay (n : Int) : Prop := 0 ≤ n ∧ n ≤ 109572
instance isDayDec (n : Int) : Decidable (isDay n) := inferInstanceAs (Decidable (0 ≤ n ∧ n ≤ 109572))
def nextF (we : Int) (l : List Rul) (d : Int) : Nat → Int → Int × Int
  | 0, _ => (0, 51)
  | f + 1, n => if isDay n then (if isOpen we l n = true then (n, 0) else nextF we l d f (n + d)) else (0, 51)
def next (we : Int) (l : List Rul) (n d : Int) : Int × Int := nextF we l d 109580 n
def month (n : Int) : Int := 12 * civY n + civM n
def kept (we : Int) (l : List Rul) (n d : Int) : Int × Int :=
  if (next we l n d).2 = 0 ∧ month (next we l n d).1 = month n then next we l n d else next we l n (-d)
def addF (we : Int) (l : List Rul) (d : Int) : Nat → Int → Int → Int × Int
  | 0, _, _ => (0, 51)
  | f + 1, n, k => if k = 0 then (n, 0) else if (next we l (n + d) d).2 = 0 then addF we l d f (next we l (n + d) d).1 (k - d) else (0, 51)
def Adjust (we : Int) (l : List Rul) (n way : Int) : Int × Int :=
 if (chk we l).1 = 0 then
  (if way < 0 ∨ way > 4 then (0, 90) else if isDay n then
   (if way = 1 then next we l n 1 else if way = 2 then next we l n (-1) else if way = 3 then kept we l n 1 else if way = 4 then kept we l n (-1) else (n, 0))
  else (0, 51))
 else (0, (chk we l).1)
def Add (we : Int) (l : List Rul) (n k : Int) : Int × Int :=
 if (chk we l).1 = 0 then
  (if isDay n then (if k = 0 then next we l n 1 else addF we l (if k < 0 then -1 else 1) 109580 n k) else (0, 51))
 else (0, (chk we l).1)
theorem nextF_res (we : Int) (l : List Rul) (d : Int) : ∀ (f : Nat) (n : Int), (nextF we l d f n = (0, 51)) ∨ ((nextF we l d f n).2 = 0 ∧ isDay (nextF we l d f n).1 ∧ isOpen we l (nextF we l d f n).1 = true)
 | 0, n => .inl rfl
 | f + 1, n => by
  unfold nextF
  split
  ·
   rename_i h
   split
   ·
    rename_i ho; exact .inr ⟨rfl, h, ho⟩
   ·
    exact nextF_res we l d f (n + d)
  ·
   exact .inl rfl
theorem next_res (we : Int) (l : List Rul) (n d : Int) : (next we l n d = (0, 51)) ∨ ((next we l n d).2 = 0 ∧ isDay (next we l n d).1 ∧ isOpen we l (next we l n d).1 = true) := nextF_res we l d _ n
end Go.Proofs.Ytoncignjcgjhhaa.M
namespace Go.Proofs.Ytoncignjcgjhhaa.H
open Go.RowKit Go.Maps Go.Proofs.YtoncignjcgjhhaaW.PrintWords Go.Proofs.YtoncignjcgjhhaaW.PrintLast Go.Proofs.YtoncignjcgjhhaaW.PrintMore
open Go.Proofs.Ytoncignjcgjhhaa.Q (S63 k63 z63)
theorem rel_upd {we y : Int} {l : List M.Rul} {S f f' : Int → Bool} (h : M.Rel we l S f) (hu : Upd we y f f' l) : M.Rel we l (fun z => S z || decide (z = y)) f' := by
 intro x h0 h1
 rw [hu x h0 h1, Bool.or_eq_true, h x h0 h1]
 constructor
 ·
  rintro (⟨z, hz, ha⟩ | ha)
  ·
   exact ⟨z, by simp [hz], ha⟩
  ·
   exact ⟨y, by simp, ha⟩
 ·
  rintro ⟨z, hz, ha⟩
  rw [Bool.or_eq_true, decide_eq_true_eq] at hz
  rcases hz with hz | rfl
  ·
   exact .inl ⟨z, hz, ha⟩
  ·
   exact .inr ha
def BkS (w0 w : World) (bb md mb : Nat) (we : Int) (A : Option Addr) (c : Nat) (l : List S63) (n : Nat) (P : Int → Prop) : Prop :=
  ∃ S f, Bk w0 w bb md mb we A c l n S f ∧ M.Rel we (l.map ru) S f ∧ ∀ z, P z → S z = true
theorem year_calls (w0 w : World) (bb md mb : Nat) (we : Int) (A : Option Addr) (c : Nat) (l : List S63) (n : Nat) (P : Int → Prop) (y : Int) (hB : BkS w0 w bb md mb we A c l n P) (hO : Ok w0 we A l) (h0 : 1900 ≤ y) (h1 : y ≤ 2199) (hn : n + 100 < maxLen) :
  Calls Try.prog 109 #[.pointer (some ⟨bb, 0, none⟩), .int .i64 y] w fun e w' => e = .returned (.tuple #[]) ∧ BkS w0 w' bb md mb we A c l (n + 65) (fun z => P z ∨ z = y) := by
 obtain ⟨S, f, hb, hr, hp⟩ := hB
 cases hs : S y with
 | true =>
  refine (year_seen w0 w bb md mb we A c l n S f y hb (by unfold L.i64; omega) hs).mono ?_
  rintro e w' ⟨rfl, rfl⟩
  exact ⟨rfl, S, f, hb.mono (by omega), hr, fun z hz => by rcases hz with hz | rfl; exact hp z hz; exact hs⟩
 | false =>
  refine (year_new w0 w bb md mb we A c l n S f y hb hO h0 h1 hs hn).mono ?_
  rintro e w' ⟨rfl, f', hb', hu⟩
  exact ⟨rfl, _, f', hb', rel_upd hr hu, fun z hz => by rcases hz with hz | rfl; simp [hp z hz]; simp⟩
theorem civil_calls (n : Int) (h : M.isDay n) (w : World) : Calls Try.prog 93 #[.int .i64 n] w fun e w' => e = .returned (.tuple #[.int .i64 (M.civY n), .int .i64 (M.civM n), .int .i64 (M.civD n), .int .i64 0]) ∧ Drawn0 w w' := by
 have hc := L.Civil n
 rw [if_pos (show 0 ≤ n ∧ n ≤ 109572 from h)] at hc
 obtain ⟨k, hk⟩ := hc.rounds
 exact Q.date_Civil.calls k n _ _ _ _ w hk
set_option maxHeartbeats 2000000 in
set_option maxRecDepth 100000 in
theorem holiday_at (w0 w : World) (bb md mb : Nat) (we : Int) (A : Option Addr) (c : Nat) (l : List S63) (n : Nat) (P : Int → Prop) (x : Int) (hB : BkS w0 w bb md mb we A c l n P) (hO : Ok w0 we A l) (hx : M.isDay x) (hn : n + 300 < maxLen) :
  Calls Try.prog 75 #[.pointer (some ⟨bb, 0, none⟩), .int .i64 x] w fun e w' => e = .returned (.bool (M.hol we (l.map ru) x)) ∧ BkS w0 w' bb md mb we A c l (n + 195) P := by
 have HB := Aside0.mk hB;have HO := Aside0.mk hO;have HX := Aside0.mk hx
 have hx64 : L.i64 x := by unfold M.isDay at hx; unfold L.i64; omega
 have hy := M.yearOf_spec x hx.1 hx.2
 have hy0 : 1900 ≤ M.civY x := hy.1
 have hy1 : M.civY x ≤ 2199 := hy.2.1
 clear hB hO hx hy
 go_enter Try.func75, Try.ntmps75
 go_wp2_with (go_at_call 93; refine (civil_calls _ HX.out _).mono ?_; rintro e w' ⟨rfl, ⟨n0, rfl⟩⟩)
 go_loopg [17] 3 (fun kq v w' => ∃ i : Nat, i ≤ 3 ∧ kq + i = 3 ∧ v = .int .i64 i ∧ Aside0 (BkS w0 w' bb md mb we A c l (n + 65 * i) (fun z => P z ∨ (M.civY x - 1 ≤ z ∧ z < M.civY x - 1 + i ∧ 1900 ≤ z ∧ z ≤ 2199))))
 case atStart =>
  refine ⟨0, by omega, by omega, rfl, ⟨?_⟩⟩
  obtain ⟨S, f, hb, hr, hp⟩ := HB.out
  exact ⟨S, f, (by repeat (first | exact hb | refine Bk.drewN ?_ _ | refine Bk.drew ?_)), hr, fun z hz => by rcases hz with hz | hz; exact hp z hz; omega⟩
 case round =>
  obtain ⟨i, hi, hk, rfl, HS⟩ := hrel
  clear HB
  by_cases hlt : i < 3
  ·
   have hw1 : IntKind.i64.wrap (M.civY x + (i : Int)) = M.civY x + i := IntWalk.i64_in _ (by omega)
   by_cases hr : 1900 ≤ M.civY x + (i : Int) - 1 ∧ M.civY x + (i : Int) - 1 ≤ 2199
   ·
    have hrb := Aside0.mk (show decide (1900 ≤ M.civY x + (i : Int) - 1 ∧ M.civY x + (i : Int) - 1 ≤ 2199) = true by simpa using hr)
    have hr0 := hr.1; have hr1 := hr.2; clear hr hw1
    go_wp2_with fail
    refine (within_calls _ _ _ _ hrb.out _).mono ?_; rintro e w' ⟨rfl, ⟨n1, rfl⟩⟩
    go_wp2_with fail
    refine (year_calls w0 _ bb md mb we A c l (n + 65 * i) (fun z => P z ∨ (M.civY x - 1 ≤ z ∧ z < M.civY x - 1 + i ∧ 1900 ≤ z ∧ z ≤ 2199)) _ ?_ HO.out hr0 hr1 (by omega)).mono ?_
    rotate_left
    ·
     rintro e w2 ⟨rfl, hb2⟩
     have HB2 := Aside0.mk hb2; clear hb2
     go_wp2_with fail
     go_roundg (gk - 1)
     case measure => omega
     case rel =>
      refine ⟨i + 1, by omega, by omega, by go_num, ⟨?_⟩⟩
      obtain ⟨S, f, hb, hr, hp⟩ := HB2.out
      exact ⟨S, f, hb.mono (by omega), hr, fun z hz => hp z (by
       rcases hz with hz | hz
       ·
        exact .inl (.inl hz)
       ·
        by_cases e : z = M.civY x + (i : Int) - 1
        ·
         exact .inr e
        ·
         exact .inl (.inr ⟨hz.1, by omega, hz.2.2⟩))⟩
    ·
     obtain ⟨S, f, hb, hr, hp⟩ := HS.out
     exact ⟨S, f, (by repeat (first | exact hb | refine Bk.drewN ?_ _ | refine Bk.drew ?_)), hr, hp⟩
   ·
    have hrb := Aside0.mk (show decide (1900 ≤ M.civY x + (i : Int) - 1 ∧ M.civY x + (i : Int) - 1 ≤ 2199) = false by simpa using hr)
    have HR := Aside0.mk hr;clear hr hw1
    go_wp2_with fail
    refine (within_calls _ _ _ _ hrb.out _).mono ?_; rintro e w' ⟨rfl, ⟨n1, rfl⟩⟩
    go_wp2_with fail
    go_roundg (gk - 1)
    case measure => omega
    case rel =>
     refine ⟨i + 1, by omega, by omega, by go_num, ⟨?_⟩⟩
     obtain ⟨S, f, hb, hr, hp⟩ := HS.out
     exact ⟨S, f, Bk.mono (n := n + 65 * i) (by repeat (first | exact hb | refine Bk.drewN ?_ _ | refine Bk.drew ?_)) (by omega), hr, fun z hz => hp z (by
      rcases hz with hz | hz
      ·
       exact .inl hz
      ·
       by_cases e : z = M.civY x + (i : Int) - 1
       ·
        have := HR.out; omega
       ·
        exact .inr ⟨hz.1, by omega, hz.2.2⟩)⟩
  ·
   have e : i = 3 := by omega
   subst e
   obtain ⟨S, f, hb, hr, hp⟩ := HS.out
   have HB3 := Aside0.mk hb;have HP := Aside0.mk hp;have HR := Aside0.mk hr
   have HF := Aside0.mk (M.rel_hol (fun r hr => by obtain ⟨y, hy, rfl⟩ := List.mem_map.1 hr; exact HO.out.may y hy) hr HX.out.1 HX.out.2 (fun z a b c d => hp z (.inr ⟨a, by omega, c, d⟩)))
   have hc3 := hb.c3;clear hb hr hp HS
   go_wp2_with (at_lookup; refine wp_look _ rfl _ _ rfl mb _ f rfl HB3.out.dy _ rfl hx64 ?_; rw [HF.out])
   go_ret
   refine ⟨?_, S, f, HB3.out.mono (by omega), HR.out, fun z hz => HP.out z (.inl hz)⟩
   cases M.hol we (l.map ru) x <;> rfl
def Book (w0 w : World) (bb : Nat) (we : Int) (A : Option Addr) (c : Nat) (l : List S63) (n : Nat) : Prop :=
  ∃ md mb, BkS w0 w bb md mb we A c l n (fun _ => False)
section
variable {w0 w w1 : World} {bb : Nat} {we : Int} {A : Option Addr} {c : Nat} {l : List S63} {n : Nat}
theorem Book.step (h : Book w0 w bb we A c l n) (hb : Below w.heap.size w w1) : Book w0 w1 bb we A c l n := by
  obtain ⟨md, mb, S, f, h, r⟩ := h
  exact ⟨md, mb, S, f, h.step hb, r⟩
theorem Book.mono (h : Book w0 w bb we A c l n) {n' : Nat} (hn : n ≤ n') : Book w0 w bb we A c l n' := by
  obtain ⟨md, mb, S, f, h, r⟩ := h
  exact ⟨md, mb, S, f, h.mono hn, r⟩
theorem Book.drewN (h : Book w0 w bb we A c l n) (k : Nat) : Book w0 (w.drewN k) bb we A c l n := h.step (pw_below_drewN (Below.refl _ _) k)
theorem Book.drew (h : Book w0 w bb we A c l n) : Book w0 w.drew bb we A c l n := h.step (below_drew (Below.refl _ _))
theorem Book.alloc (h : Book w0 w bb we A c l n) (o : Obj) : Book w0 (w.alloc o) bb we A c l n := h.step (below_alloc (Below.refl _ _) o)
theorem Book.bel (h : Book w0 w bb we A c l n) : Below w0.heap.size w0 w := by obtain ⟨md, mb, S, f, h, _⟩ := h; exact h.bel
theorem Book.c0 (h : Book w0 w bb we A c l n) : w.cell? ⟨bb, 0, none⟩ = some (.int .i64 we) := by obtain ⟨md, mb, S, f, h, _⟩ := h; exact h.c0
end
theorem holiday_calls (w0 w : World) (bb : Nat) (we : Int) (A : Option Addr) (c : Nat) (l : List S63) (n : Nat) (x : Int) (hB : Book w0 w bb we A c l n) (hO : Ok w0 we A l) (hx : M.isDay x) (hn : n + 300 < maxLen) :
  Calls Try.prog 75 #[.pointer (some ⟨bb, 0, none⟩), .int .i64 x] w fun e w' => e = .returned (.bool (M.hol we (l.map ru) x)) ∧ Book w0 w' bb we A c l (n + 195) := by
 obtain ⟨md, mb, hb⟩ := hB
 refine (holiday_at w0 w bb md mb we A c l n _ x hb hO hx hn).mono ?_
 rintro e w' ⟨rfl, h⟩
 exact ⟨rfl, md, mb, h⟩
set_option maxHeartbeats 1000000 in
theorem open_calls (w0 w : World) (bb : Nat) (we : Int) (A : Option Addr) (c : Nat) (l : List S63) (n : Nat) (x : Int) (r : Bool) (hr : M.isOpen we (l.map ru) x = r) (hB : Book w0 w bb we A c l n) (hO : Ok w0 we A l) (hx : M.isDay x) (hn : n + 300 < maxLen) :
  Calls Try.prog 72 #[.pointer (some ⟨bb, 0, none⟩), .int .i64 x] w fun e w' => e = .returned (.bool r) ∧ Book w0 w' bb we A c l (n + 195) := by
 have hwe0 := hO.h0; have hwe1 := hO.h1
 have hx0 : -6 ≤ x := by have := hx.1; omega
 have hx1 : x ≤ 200000 := by have := hx.2; omega
 have HB := Aside0.mk hB;have HO := Aside0.mk hO;have HX := Aside0.mk hx;clear hB hO hx
 cases ho : M.off we x with
 | true =>
  have HR := Aside0.mk (show r = false by rw [← hr]; simp [M.isOpen, ho])
  have HH := Aside0.mk ho;clear ho hr
  go_enter Try.func72, Try.ntmps72
  go_wp2_with fail
  refine (off_calls _ we _ _ HB.out.c0 hwe0 hwe1 hx0 hx1).mono ?_; rintro e w' ⟨rfl, rfl⟩; rw [HH.out]
  go_wp2_with fail
  go_ret
  exact ⟨ret_bool HR.out.symm, HB.out.mono (by omega)⟩
 | false =>
  have HR := Aside0.mk (show (!M.hol we (l.map ru) x) = r by rw [← hr]; simp [M.isOpen, ho])
  have HH := Aside0.mk ho;clear ho hr
  go_enter Try.func72, Try.ntmps72
  go_wp2_with fail
  refine (off_calls _ we _ _ HB.out.c0 hwe0 hwe1 hx0 hx1).mono ?_; rintro e w' ⟨rfl, rfl⟩; rw [HH.out]
  go_wp2_with fail
  refine (holiday_calls w0 _ bb we A c l n _ HB.out HO.out HX.out hn).mono ?_; rintro e w2 ⟨rfl, hb2⟩
  have HB2 := Aside0.mk hb2; clear hb2
  go_wp2_with fail
  go_ret
  exact ⟨ret_bool HR.out, HB2.out⟩
theorem nextF_succ {we : Int} {l : List M.Rul} {d : Int} {f : Nat} {n : Int} {ans : Int × Int} (h : M.nextF we l d f n = ans) (hx : M.isDay n) (hf : f ≠ 0) : (M.isOpen we l n = true → (n, 0) = ans) ∧ (M.isOpen we l n = false → M.nextF we l d (f - 1) (n + d) = ans) := by
 obtain ⟨k, rfl⟩ : ∃ k, f = k + 1 := ⟨f - 1, by omega⟩
 unfold M.nextF at h
 rw [if_pos hx] at h
 constructor
 ·
  intro ho; rw [if_pos ho] at h; exact h
 ·
  intro ho; rw [if_neg (by simp [ho])] at h; exact h
theorem nextF_out {we : Int} {l : List M.Rul} {d : Int} {f : Nat} {n : Int} {ans : Int × Int} (h : M.nextF we l d f n = ans) (hx : ¬ M.isDay n) : (0, 51) = ans := by
 cases f with
 | zero => exact h
 | succ k => unfold M.nextF at h; rw [if_neg hx] at h; exact h
set_option maxHeartbeats 1000000 in
set_option maxRecDepth 100000 in
theorem next_calls (w0 w : World) (bb : Nat) (we : Int) (A : Option Addr) (c : Nat) (l : List S63) (n : Nat) (x d : Int) (hB : Book w0 w bb we A c l n) (hO : Ok w0 we A l) (hd : d = 1 ∨ d = -1) (hx0 : -1 ≤ x) (hx1 : x ≤ 109573) (hn : n + 22000000 < maxLen) :
  Calls Try.prog 77 #[.pointer (some ⟨bb, 0, none⟩), .int .i64 x, .int .i64 d] w fun e w' => e = .returned (.tuple #[.int .i64 (M.next we (l.map ru) x d).1, .int .i64 (M.next we (l.map ru) x d).2]) ∧ Book w0 w' bb we A c l (n + 21916000) := by
 have HB := Aside0.mk hB;have HO := Aside0.mk hO;have HD := Aside0.mk hd
 have hd0 : -1 ≤ d := by omega
 have hd1 : d ≤ 1 := by omega
 clear hB hO hd
 go_enter Try.func77, Try.ntmps77
 go_wp2_with fail
 go_loopg [1] 109580 (fun kq v w' => ∃ y : Int, -1 ≤ y ∧ y ≤ 109573 ∧ kq ≤ 109580 ∧ v = .int .i64 y ∧ Aside0 (M.nextF we (l.map ru) d kq y = M.next we (l.map ru) x d ∧ (d = 1 → 109573 - y < kq) ∧ (d = -1 → y + 1 < kq)) ∧ Aside0 (Book w0 w' bb we A c l (n + 200 * (109580 - kq))))
 case atStart => exact ⟨x, hx0, hx1, by omega, rfl, ⟨rfl, by omega, by omega⟩, ⟨HB.out.mono (by omega)⟩⟩
 case round =>
  obtain ⟨y, hy0, hy1, hk, rfl, HF, HB2⟩ := hrel
  clear HB
  by_cases hy : M.isDay y
  ·
   have hyd := hy.1;have hyd2 := hy.2
   have hk0 : gk ≠ 0 := by have h1 := HF.out.2.1; have h2 := HF.out.2.2; have h3 := HD.out; omega
   obtain ⟨hs1, hs2⟩ := nextF_succ HF.out.1 hy hk0
   have HDB := Aside0.mk (decide_eq_true (show 0 ≤ y ∧ y ≤ 109572 from hy))
   have HY := Aside0.mk hy; clear hy
   cases ho : M.isOpen we (l.map ru) y with
   | true =>
    have HT := Aside0.mk (hs1 ho); have HH := Aside0.mk ho; clear hs1 hs2 ho
    go_wp2_with fail
    refine (is_calls _ _ HDB.out _).mono ?_; rintro e w6 ⟨rfl, ⟨nq, rfl⟩⟩
    go_wp2_with fail
    refine (open_calls w0 _ bb we A c l (n + 200 * (109580 - gk)) _ _ HH.out (HB2.out.drewN _) HO.out HY.out (by omega)).mono ?_; rintro e w2 ⟨rfl, hb2⟩
    have HB3 := Aside0.mk hb2; clear hb2
    go_wp2_with fail
    go_ret2
    exact ⟨ret_pair HT.out, HB3.out.mono (by omega)⟩
   | false =>
    have HT := Aside0.mk (hs2 ho); have HH := Aside0.mk ho; clear hs1 hs2 ho
    go_wp2_with fail
    refine (is_calls _ _ HDB.out _).mono ?_; rintro e w6 ⟨rfl, ⟨nq, rfl⟩⟩
    go_wp2_with fail
    refine (open_calls w0 _ bb we A c l (n + 200 * (109580 - gk)) _ _ HH.out (HB2.out.drewN _) HO.out HY.out (by omega)).mono ?_; rintro e w2 ⟨rfl, hb2⟩
    have HB3 := Aside0.mk hb2; clear hb2
    go_wp2_with fail
    go_roundg (gk - 1)
    case measure => omega
    case rel => exact ⟨y + d, by omega, by omega, by omega, by go_num, ⟨HT.out, by have := HF.out.2.1; omega, by have := HF.out.2.2; omega⟩, ⟨HB3.out.mono (by omega)⟩⟩
  ·
   have HDB := Aside0.mk (decide_eq_false (show ¬ (0 ≤ y ∧ y ≤ 109572) from hy))
   have HT := Aside0.mk (nextF_out HF.out.1 hy); clear hy
   go_wp2_with fail
   refine (is_calls _ _ HDB.out _).mono ?_; rintro e w6 ⟨rfl, ⟨nq, rfl⟩⟩
   go_wp2_with fail
   go_ret2
   exact ⟨ret_pair HT.out, (HB2.out.drewN _).mono (by omega)⟩
end Go.Proofs.Ytoncignjcgjhhaa.H
namespace Go.Proofs.Ytoncignjcgjhhaa.Q
open Go.RowKit Go.Proofs.YtoncignjcgjhhaaW.PrintWords Go.Proofs.YtoncignjcgjhhaaW.PrintLast Go.Proofs.YtoncignjcgjhhaaW.PrintMore
attribute [local go_sem] max2_int min2_int max_two min_two max_three min_three max_four min_four   -- for this text's walks alone
-- NOT PRINTED: function 77 (cal_book_next)
def cal_month.f (k : Nat) (a0 : Int) : Option (Int) := (date_Civil.f k a0).bind fun bt474 => (some (wrap64 ((wrap64 (12 * bt474.1)) + bt474.2.1)))
set_option maxHeartbeats 8000000 in
set_option maxRecDepth 100000 in
theorem cal_month.calls (k : Nat) (a0 r : Int) (w : World) (h : cal_month.f k a0 = some r) :
  Calls Try.prog 111 #[.int .i64 a0] w fun e w' => e = .returned (.int .i64 r) ∧ Drawn0 w w' := by
 have H : ((date_Civil.f k a0).bind fun bt474 => (some (wrap64 ((wrap64 (12 * bt474.1)) + bt474.2.1)))) = some r := h
 clear h;replace H := Option.bind_eq_some_iff.mp H
 obtain ⟨⟨t474, t475, t476, t477⟩, A20, H⟩ := H
 replace H : (some (wrap64 ((wrap64 (12 * t474)) + t475))) = some r := H
 have A2 := Aside0.mk A20;clear A20
 obtain rfl := Option.some.inj H
 go_enter Try.func111, Try.ntmps111
 go_wp2_with (first | ((with_reducible refine gG 93 ?_); refine goA (some 9) Try.func93 #[.int .i64 a0] ?_; (with_reducible refine (date_Civil.calls k a0 t474 t475 t476 t477 _ A2.out).mono ?_); rintro e w' ⟨rfl, ⟨nd, rfl⟩⟩; refine ⟨_, rfl, ?_⟩))
 go_ret
 exact ⟨eS, eD⟩
-- NOT PRINTED: function 78 (cal_book_kept)
end Go.Proofs.Ytoncignjcgjhhaa.Q
namespace Go.Proofs.Ytoncignjcgjhhaa.H
open Go.RowKit Go.Maps Go.Proofs.YtoncignjcgjhhaaW.PrintWords Go.Proofs.YtoncignjcgjhhaaW.PrintLast Go.Proofs.YtoncignjcgjhhaaW.PrintMore
open Go.Proofs.Ytoncignjcgjhhaa.Q (S63 k63 z63)
theorem month_ev (n : Int) (h : M.isDay n) : Ev (fun k => Q.cal_month.f k n) (M.month n) := by
 have hc := L.Civil n
 rw [if_pos (show 0 ≤ n ∧ n ≤ 109572 from h)] at hc
 obtain ⟨⟨a, b, c, d, _, _⟩, _⟩ := M.civ_spec n h.1 h.2
 refine Ev.congr (fun k => rfl) (Ev.bind hc (Ev.congr (f := fun _ => some (M.month n)) (fun k => ?_) (Ev.now _)))
 simp only
 rw [L.w64 (x := 12 * M.civY n) (by omega) (by omega), L.w64 (by omega) (by omega)]
 rfl
theorem month_rng (n : Int) (h : M.isDay n) : 0 ≤ M.month n ∧ M.month n ≤ 30000 := by
  obtain ⟨⟨a, b, c, d, _, _⟩, _⟩ := M.civ_spec n h.1 h.2
  unfold M.month; omega
theorem cmonth_calls (n : Int) (h : M.isDay n) (w : World) : Calls Try.prog 111 #[.int .i64 n] w fun e w' => e = .returned (.int .i64 (M.month n)) ∧ Drawn0 w w' := by
 obtain ⟨k, hk⟩ := (month_ev n h).rounds
 exact Q.cal_month.calls k n _ w hk
theorem kept_same {we : Int} {l : List M.Rul} {n d : Int} {p : Int × Int} (hp : M.next we l n d = p) (h : p.2 = 0) (hm : M.month p.1 = M.month n) : p = M.kept we l n d := by
  subst hp; unfold M.kept; rw [if_pos ⟨h, hm⟩]
theorem kept_other {we : Int} {l : List M.Rul} {n d : Int} {p : Int × Int} (hp : M.next we l n d = p) (h : ¬ (p.2 = 0 ∧ M.month p.1 = M.month n)) : M.next we l n (-d) = M.kept we l n d := by
  subst hp; unfold M.kept; rw [if_neg h]
set_option maxHeartbeats 1000000 in
set_option maxRecDepth 100000 in
theorem kept_calls (w0 w : World) (bb : Nat) (we : Int) (A : Option Addr) (c : Nat) (l : List S63) (n : Nat) (x d : Int) (hB : Book w0 w bb we A c l n) (hO : Ok w0 we A l) (hd : d = 1 ∨ d = -1) (hx : M.isDay x) (hn : n + 44000000 < maxLen) :
  Calls Try.prog 78 #[.pointer (some ⟨bb, 0, none⟩), .int .i64 x, .int .i64 d] w fun e w' => e = .returned (.tuple #[.int .i64 (M.kept we (l.map ru) x d).1, .int .i64 (M.kept we (l.map ru) x d).2]) ∧ Book w0 w' bb we A c l (n + 43832000) := by
 have HB := Aside0.mk hB;have HO := Aside0.mk hO;have HX := Aside0.mk hx;have HD := Aside0.mk hd
 have hx0 : -1 ≤ x := by have := hx.1; omega
 have hx1 : x ≤ 109573 := by have := hx.2; omega
 have hd0 : -1 ≤ d := by omega
 have hd1 : d ≤ 1 := by omega
 have hres := M.next_res we (l.map ru) x d
 clear hB hO hd hx
 obtain ⟨p, hp⟩ : ∃ p, M.next we (l.map ru) x d = p := ⟨_, rfl⟩
 rw [hp] at hres
 have HP := Aside0.mk hp
 by_cases hc : p.2 = 0 ∧ M.month p.1 = M.month x
 ·
  have HK := Aside0.mk (kept_same hp hc.1 hc.2)
  obtain ⟨p1, p2⟩ := p
  simp only at hc hres
  obtain ⟨rfl, hm⟩ := hc
  have hday : M.isDay p1 := by rcases hres with h | h; (injection h with h1 h2; cases h2); exact h.2.1
  have HY := Aside0.mk hday;have hmr := month_rng p1 hday;have HM := Aside0.mk hm
  have hmb : (M.month p1 == M.month x) = true := by simpa using hm
  clear hres hp hm hday hmr
  go_enter Try.func78, Try.ntmps78
  go_wp2_with fail
  refine (next_calls w0 _ bb we A c l n _ _ HB.out HO.out HD.out hx0 hx1 (by omega)).mono ?_; rw [HP.out]; rintro e w2 ⟨rfl, hb2⟩
  have HB2 := Aside0.mk hb2; clear hb2
  go_wp2_with fail
  refine (cmonth_calls _ HY.out _).mono ?_; rintro e w3 ⟨rfl, ⟨q3, rfl⟩⟩
  go_wp2_with fail
  refine (cmonth_calls _ HX.out _).mono ?_; rintro e w4 ⟨rfl, ⟨q4, rfl⟩⟩
  go_wp2_with fail
  go_ret2
  exact ⟨ret_pair HK.out, Book.mono (n := n + 21916000) (by repeat (with_reducible first | exact HB2.out | refine Book.drewN ?_ _ | refine Book.drew ?_)) (by omega)⟩
 ·
  have HK := Aside0.mk (kept_other hp hc)
  have hnd : -d = 1 ∨ -d = -1 := by have := HD.out; omega
  have HND := Aside0.mk hnd
  obtain ⟨p1, p2⟩ := p
  simp only at hc hres
  by_cases h2 : p2 = 0
  ·
   subst h2
   have hm : ¬ M.month p1 = M.month x := fun e => hc ⟨rfl, e⟩
   have hday : M.isDay p1 := by rcases hres with h | h; (injection h with h1 h2; cases h2); exact h.2.1
   have HY := Aside0.mk hday
   have hmb : (M.month p1 == M.month x) = false := by simpa using hm
   clear hres hp hm hday hnd hc
   go_enter Try.func78, Try.ntmps78
   go_wp2_with fail
   refine (next_calls w0 _ bb we A c l n _ _ HB.out HO.out HD.out hx0 hx1 (by omega)).mono ?_; rw [HP.out]; rintro e w2 ⟨rfl, hb2⟩
   have HB2 := Aside0.mk hb2; clear hb2
   go_wp2_with fail
   refine (cmonth_calls _ HY.out _).mono ?_; rintro e w3 ⟨rfl, ⟨q3, rfl⟩⟩
   go_wp2_with fail
   refine (cmonth_calls _ HX.out _).mono ?_; rintro e w4 ⟨rfl, ⟨q4, rfl⟩⟩
   go_wp2_with fail
   refine (next_calls w0 _ bb we A c l (n + 21916000) _ _ (by repeat (with_reducible first | exact HB2.out | refine Book.drewN ?_ _ | refine Book.drew ?_)) HO.out HND.out hx0 hx1 (by omega)).mono ?_; rw [HK.out]; rintro e w5 ⟨rfl, hb5⟩
   have HB5 := Aside0.mk hb5; clear hb5
   go_wp2_with fail
   go_ret2
   exact ⟨rfl, HB5.out.mono (by omega)⟩
  ·
   have hz : (p2 == 0) = false := by simpa using h2
   clear hres hp hnd hc
   go_enter Try.func78, Try.ntmps78
   go_wp2_with fail
   refine (next_calls w0 _ bb we A c l n _ _ HB.out HO.out HD.out hx0 hx1 (by omega)).mono ?_; rw [HP.out]; rintro e w2 ⟨rfl, hb2⟩
   have HB2 := Aside0.mk hb2; clear hb2
   go_wp2_with fail
   refine (next_calls w0 _ bb we A c l (n + 21916000) _ _ (by repeat (with_reducible first | exact HB2.out | refine Book.drewN ?_ _ | refine Book.drew ?_)) HO.out HND.out hx0 hx1 (by omega)).mono ?_; rw [HK.out]; rintro e w5 ⟨rfl, hb5⟩
   have HB5 := Aside0.mk hb5; clear hb5
   go_wp2_with fail
   go_ret2
   exact ⟨rfl, HB5.out.mono (by omega)⟩
set_option maxHeartbeats 1000000 in
theorem begin_err (we : Int) (A : Option Addr) (c : Nat) (l : List S63) (w : World) (hr : Kd.C k63 w A l.length l) (hw : ∀ x ∈ l, wfS x) (hne : ¬ (M.chk we (l.map ru)).1 = 0) :
  Calls Try.prog 70 #[.agg #[.int .i64 we, .slice A l.length c]] w fun e w' => e = .returned (.tuple #[.pointer none, .int .i64 (M.chk we (l.map ru)).1]) ∧ Below w.heap.size w w' := by
 have HR := Aside0.mk hr;have HW := Aside0.mk hw
 obtain ⟨e1, he⟩ : ∃ e1, M.chk we (l.map ru) = e1 := ⟨_, rfl⟩
 rw [he] at hne
 have HE := Aside0.mk he
 have hb : (e1.1 != 0) = true := by simpa using hne
 clear hr hw he hne
 rw [HE.out]
 go_enter Try.func70, Try.ntmps70
 go_wp2_with fail
 refine (check_calls we A c l _ (Kd.C_below HR.out (below_alloc (Below.refl _ _) _)) HW.out).mono ?_; rw [HE.out]; rintro e w2 ⟨rfl, hb2⟩
 have HB2 := Aside0.mk (below_step (below_alloc (Below.refl _ _) _) hb2); clear hb2
 go_wp2_with fail
 go_ret2
 exact ⟨rfl, HB2.out⟩
theorem size_alloc (w : World) (o : Obj) : (w.alloc o).heap.size = w.heap.size + 1 := by simp
theorem book_made {w w2 : World} (we : Int) (A : Option Addr) (c : Nat) (l : List S63) (hb : Below w.heap.size w w2) :
  Book w (((w2.alloc (.map #[] 0)).alloc (.map #[] 0)).alloc (.cells #[.int .i64 we, .slice A l.length c, .map (some w2.heap.size), .map (some (w2.heap.size + 1))] 129)) (w2.heap.size + 1 + 1) we A c l 0 := by
 have h1 : MapOk (w2.alloc (.map #[] 0)) w2.heap.size 0 (fun _ => false) := MapOk.made w2
 have h2 : MapOk ((w2.alloc (.map #[] 0)).alloc (.map #[] 0)) (w2.heap.size + 1) 0 (fun _ => false) := by
  have := MapOk.made (w2.alloc (.map #[] 0))
  rw [size_alloc] at this
  exact this
 have s := hb.size
 refine ⟨w2.heap.size, w2.heap.size + 1, fun _ => false, fun _ => false, ⟨?_, ?_, by omega, by omega, by omega, by omega, by omega, by omega, ?_, ?_⟩, fun x _ _ => by simp, fun z hz => hz.elim⟩
 ·
  exact below_alloc (below_alloc (below_alloc hb _) _) _
 ·
  have := blk_new ((w2.alloc (.map #[] 0)).alloc (.map #[] 0)) (.cells #[.int .i64 we, .slice A l.length c, .map (some w2.heap.size), .map (some (w2.heap.size + 1))] 129)
  rw [size_alloc, size_alloc] at this
  exact this
 ·
  exact (h1.kept (grown_of_below (below_alloc (Below.refl _ _) _) none) (by simp)).kept (grown_of_below (below_alloc (Below.refl _ _) _) none) (by simp)
 ·
  exact h2.kept (grown_of_below (below_alloc (Below.refl _ _) _) none) (by simp)
set_option maxHeartbeats 1000000 in
theorem begin_ok (we : Int) (A : Option Addr) (c : Nat) (l : List S63) (w : World) (hr : Kd.C k63 w A l.length l) (hw : ∀ x ∈ l, wfS x) (hne : (M.chk we (l.map ru)).1 = 0) :
  Calls Try.prog 70 #[.agg #[.int .i64 we, .slice A l.length c]] w fun e w' => ∃ bb, e = .returned (.tuple #[.pointer (some ⟨bb, 0, none⟩), .int .i64 0]) ∧ Book w w' bb we A c l 0 := by
 have HR := Aside0.mk hr;have HW := Aside0.mk hw
 have he := (M.chk_ok hne).1
 have HE := Aside0.mk he
 have hmm := @run_makeMap Try.prog
 clear hr hw he hne
 go_enter Try.func70, Try.ntmps70
 go_wp2_with fail
 refine (check_calls we A c l _ (Kd.C_below HR.out (below_alloc (Below.refl _ _) _)) HW.out).mono ?_; rw [HE.out]; rintro e w2 ⟨rfl, hb2⟩
 have HB2 := Aside0.mk (below_step (below_alloc (Below.refl _ _) _) hb2)
 have hbk : w2.heap[w.heap.size]? = some (.cells #[.int .i64 we, .slice A l.length c] 24 (0, 0)) := blk_below (blk_new _ _) hb2
 have hc0 : w2.cell? ⟨w.heap.size, 0, none⟩ = some (.int .i64 we) := (blk_cell hbk 0).trans rfl
 have hc1 : w2.cell? ⟨w.heap.size, 1, none⟩ = some (.slice A l.length c) := (blk_cell hbk 1).trans rfl
 clear hb2 hbk
 go_wp2_with fail
 go_ret2
 exact ⟨_, rfl, book_made we A c l HB2.out⟩
theorem ok_of (we : Int) (A : Option Addr) (l : List S63) (w : World) (hr : Kd.C k63 w A l.length l) (hw : ∀ x ∈ l, wfS x) (hne : (M.chk we (l.map ru)).1 = 0) : Ok w we A l :=
  have h := M.chk_ok hne
  ⟨hr, h.2.2.1, h.2.2.2.1, by simpa using h.2.1, hw, fun x hx => h.2.2.2.2 _ (List.mem_map_of_mem hx)⟩
end Go.Proofs.Ytoncignjcgjhhaa.H
namespace Go.Proofs.Ytoncignjcgjhhaa.H
open Go.RowKit Go.Maps Go.Proofs.YtoncignjcgjhhaaW.PrintWords Go.Proofs.YtoncignjcgjhhaaW.PrintLast Go.Proofs.YtoncignjcgjhhaaW.PrintMore
open Go.Proofs.Ytoncignjcgjhhaa.Q (S63 k63 z63)
theorem fin {w w' : World} {o : Obj} {bb : Nat} {we : Int} {A : Option Addr} {c : Nat} {l : List S63} {n : Nat} (h : Book (w.alloc o) w' bb we A c l n) : Below w.heap.size w w' := below_step (below_alloc (Below.refl _ _) o) h.bel
set_option maxHeartbeats 2000000 in
set_option maxRecDepth 100000 in
theorem Adjust_calls (we : Int) (A : Option Addr) (c : Nat) (l : List S63) (n way : Int) (w : World) (hr : Kd.C k63 w A l.length l) (hw : ∀ x ∈ l, wfS x) :
  Calls Try.prog 38 #[.agg #[.int .i64 we, .slice A l.length c], .int .i64 n, .int .i64 way] w fun e w' => e = .returned (.tuple #[.int .i64 (M.Adjust we (l.map ru) n way).1, .int .i64 (M.Adjust we (l.map ru) n way).2]) ∧ Below w.heap.size w w' := by
 have HR := Aside0.mk hr;have HW := Aside0.mk hw;clear hr hw
 by_cases hne : (M.chk we (l.map ru)).1 = 0
 rotate_left
 ·
  have HT := Aside0.mk (show (0, (M.chk we (l.map ru)).1) = M.Adjust we (l.map ru) n way by unfold M.Adjust; rw [if_neg hne])
  have hb : ((M.chk we (l.map ru)).1 != 0) = true := by simpa using hne
  have HN := Aside0.mk hne; clear hne
  go_enter Try.func38, Try.ntmps38
  go_wp2_with fail
  refine (begin_err we A c l _ (Kd.C_below HR.out (below_alloc (Below.refl _ _) _)) HW.out HN.out).mono ?_; rintro e w2 ⟨rfl, hb2⟩
  have HB2 := Aside0.mk (below_step (below_alloc (Below.refl _ _) _) hb2); clear hb2
  go_wp2_with fail
  go_ret2
  exact ⟨ret_pair HT.out, HB2.out⟩
 have HN := Aside0.mk hne
 have HU := Aside0.mk (show M.Adjust we (l.map ru) n way = _ by unfold M.Adjust; rw [if_pos hne])
 clear hne
 by_cases hk : way < 0 ∨ way > 4
 ·
  have HT := Aside0.mk (show (0, 90) = M.Adjust we (l.map ru) n way by rw [HU.out, if_pos hk])
  by_cases h0 : way < 0
  ·
   clear hk
   go_enter Try.func38, Try.ntmps38
   go_wp2_with fail
   refine (begin_ok we A c l _ (Kd.C_below HR.out (below_alloc (Below.refl _ _) _)) HW.out HN.out).mono ?_; rintro e w2 ⟨bb, rfl, hb2⟩
   have HO := Aside0.mk (ok_of we A l _ (Kd.C_below HR.out (below_alloc (Below.refl w.heap.size w) (.cells #[.int .i64 we, .slice A l.length c] 24))) HW.out HN.out)
   have HB := Aside0.mk hb2; clear hb2
   go_wp2_with fail
   go_ret2
   exact ⟨ret_pair HT.out, fin HB.out⟩
  ·
   have h4 : 4 < way := by omega
   clear hk
   go_enter Try.func38, Try.ntmps38
   go_wp2_with fail
   refine (begin_ok we A c l _ (Kd.C_below HR.out (below_alloc (Below.refl _ _) _)) HW.out HN.out).mono ?_; rintro e w2 ⟨bb, rfl, hb2⟩
   have HO := Aside0.mk (ok_of we A l _ (Kd.C_below HR.out (below_alloc (Below.refl w.heap.size w) (.cells #[.int .i64 we, .slice A l.length c] 24))) HW.out HN.out)
   have HB := Aside0.mk hb2; clear hb2
   go_wp2_with fail
   go_ret2
   exact ⟨ret_pair HT.out, fin HB.out⟩
 have hk0 : ¬ way < 0 := by omega
 have hk4 : ¬ 4 < way := by omega
 by_cases hx : M.isDay n
 rotate_left
 ·
  have HT := Aside0.mk (show (0, 51) = M.Adjust we (l.map ru) n way by rw [HU.out, if_neg hk, if_neg hx])
  have HDB := Aside0.mk (decide_eq_false (show ¬ (0 ≤ n ∧ n ≤ 109572) from hx)); clear hx hk
  go_enter Try.func38, Try.ntmps38
  go_wp2_with fail
  refine (begin_ok we A c l _ (Kd.C_below HR.out (below_alloc (Below.refl _ _) _)) HW.out HN.out).mono ?_; rintro e w2 ⟨bb, rfl, hb2⟩
  have HO := Aside0.mk (ok_of we A l _ (Kd.C_below HR.out (below_alloc (Below.refl w.heap.size w) (.cells #[.int .i64 we, .slice A l.length c] 24))) HW.out HN.out)
  have HB := Aside0.mk hb2; clear hb2
  go_wp2_with fail
  refine (is_calls _ _ HDB.out _).mono ?_; rintro e w3 ⟨rfl, ⟨q3, rfl⟩⟩
  go_wp2_with fail
  go_ret2
  exact ⟨ret_pair HT.out, fin (HB.out.drewN _)⟩
 have HX := Aside0.mk hx
 have hx0 : -1 ≤ n := by have := hx.1; omega
 have hx1 : n ≤ 109573 := by have := hx.2; omega
 have HDB := Aside0.mk (decide_eq_true (show 0 ≤ n ∧ n ≤ 109572 from hx))
 have HV := Aside0.mk (show M.Adjust we (l.map ru) n way = _ by rw [HU.out, if_neg hk, if_pos hx])
 clear hx hk HU
 have hw5 : way = 1 ∨ way = 2 ∨ way = 3 ∨ way = 4 ∨ way = 0 := by omega
 rcases hw5 with rfl | rfl | rfl | rfl | rfl
 ·
  have HT := Aside0.mk (show M.next we (l.map ru) n 1 = M.Adjust we (l.map ru) n 1 by rw [HV.out]; rfl)
  clear HV
  go_enter Try.func38, Try.ntmps38
  go_wp2_with fail
  refine (begin_ok we A c l _ (Kd.C_below HR.out (below_alloc (Below.refl _ _) _)) HW.out HN.out).mono ?_; rintro e w2 ⟨bb, rfl, hb2⟩
  have HO := Aside0.mk (ok_of we A l _ (Kd.C_below HR.out (below_alloc (Below.refl w.heap.size w) (.cells #[.int .i64 we, .slice A l.length c] 24))) HW.out HN.out)
  have HB := Aside0.mk hb2; clear hb2
  go_wp2_with fail
  refine (is_calls _ _ HDB.out _).mono ?_; rintro e w3 ⟨rfl, ⟨q3, rfl⟩⟩
  go_wp2_with fail
  refine (next_calls _ _ bb we A c l 0 _ _ (by repeat (with_reducible first | exact HB.out | refine Book.drewN ?_ _ | refine Book.drew ?_)) HO.out (.inl rfl) hx0 hx1 (by unfold maxLen; omega)).mono ?_; rw [HT.out]; rintro e w4 ⟨rfl, hb4⟩
  have HB4 := Aside0.mk hb4; clear hb4
  go_wp2_with fail
  go_ret2
  exact ⟨rfl, fin HB4.out⟩
 ·
  have HT := Aside0.mk (show M.next we (l.map ru) n (-1) = M.Adjust we (l.map ru) n 2 by rw [HV.out]; rfl)
  clear HV
  go_enter Try.func38, Try.ntmps38
  go_wp2_with fail
  refine (begin_ok we A c l _ (Kd.C_below HR.out (below_alloc (Below.refl _ _) _)) HW.out HN.out).mono ?_; rintro e w2 ⟨bb, rfl, hb2⟩
  have HO := Aside0.mk (ok_of we A l _ (Kd.C_below HR.out (below_alloc (Below.refl w.heap.size w) (.cells #[.int .i64 we, .slice A l.length c] 24))) HW.out HN.out)
  have HB := Aside0.mk hb2; clear hb2
  go_wp2_with fail
  refine (is_calls _ _ HDB.out _).mono ?_; rintro e w3 ⟨rfl, ⟨q3, rfl⟩⟩
  go_wp2_with fail
  refine (next_calls _ _ bb we A c l 0 _ _ (by repeat (with_reducible first | exact HB.out | refine Book.drewN ?_ _ | refine Book.drew ?_)) HO.out (.inr rfl) hx0 hx1 (by unfold maxLen; omega)).mono ?_; rw [HT.out]; rintro e w4 ⟨rfl, hb4⟩
  have HB4 := Aside0.mk hb4; clear hb4
  go_wp2_with fail
  go_ret2
  exact ⟨rfl, fin HB4.out⟩
 ·
  have HT := Aside0.mk (show M.kept we (l.map ru) n 1 = M.Adjust we (l.map ru) n 3 by rw [HV.out]; rfl)
  clear HV
  go_enter Try.func38, Try.ntmps38
  go_wp2_with fail
  refine (begin_ok we A c l _ (Kd.C_below HR.out (below_alloc (Below.refl _ _) _)) HW.out HN.out).mono ?_; rintro e w2 ⟨bb, rfl, hb2⟩
  have HO := Aside0.mk (ok_of we A l _ (Kd.C_below HR.out (below_alloc (Below.refl w.heap.size w) (.cells #[.int .i64 we, .slice A l.length c] 24))) HW.out HN.out)
  have HB := Aside0.mk hb2; clear hb2
  go_wp2_with fail
  refine (is_calls _ _ HDB.out _).mono ?_; rintro e w3 ⟨rfl, ⟨q3, rfl⟩⟩
  go_wp2_with fail
  refine (kept_calls _ _ bb we A c l 0 _ _ (by repeat (with_reducible first | exact HB.out | refine Book.drewN ?_ _ | refine Book.drew ?_)) HO.out (.inl rfl) HX.out (by unfold maxLen; omega)).mono ?_; rw [HT.out]; rintro e w4 ⟨rfl, hb4⟩
  have HB4 := Aside0.mk hb4; clear hb4
  go_wp2_with fail
  go_ret2
  exact ⟨rfl, fin HB4.out⟩
 ·
  have HT := Aside0.mk (show M.kept we (l.map ru) n (-1) = M.Adjust we (l.map ru) n 4 by rw [HV.out]; rfl)
  clear HV
  go_enter Try.func38, Try.ntmps38
  go_wp2_with fail
  refine (begin_ok we A c l _ (Kd.C_below HR.out (below_alloc (Below.refl _ _) _)) HW.out HN.out).mono ?_; rintro e w2 ⟨bb, rfl, hb2⟩
  have HO := Aside0.mk (ok_of we A l _ (Kd.C_below HR.out (below_alloc (Below.refl w.heap.size w) (.cells #[.int .i64 we, .slice A l.length c] 24))) HW.out HN.out)
  have HB := Aside0.mk hb2; clear hb2
  go_wp2_with fail
  refine (is_calls _ _ HDB.out _).mono ?_; rintro e w3 ⟨rfl, ⟨q3, rfl⟩⟩
  go_wp2_with fail
  refine (kept_calls _ _ bb we A c l 0 _ _ (by repeat (with_reducible first | exact HB.out | refine Book.drewN ?_ _ | refine Book.drew ?_)) HO.out (.inr rfl) HX.out (by unfold maxLen; omega)).mono ?_; rw [HT.out]; rintro e w4 ⟨rfl, hb4⟩
  have HB4 := Aside0.mk hb4; clear hb4
  go_wp2_with fail
  go_ret2
  exact ⟨rfl, fin HB4.out⟩
 ·
  have HT := Aside0.mk (show (n, 0) = M.Adjust we (l.map ru) n 0 by rw [HV.out]; rfl)
  clear HV
  go_enter Try.func38, Try.ntmps38
  go_wp2_with fail
  refine (begin_ok we A c l _ (Kd.C_below HR.out (below_alloc (Below.refl _ _) _)) HW.out HN.out).mono ?_; rintro e w2 ⟨bb, rfl, hb2⟩
  have HO := Aside0.mk (ok_of we A l _ (Kd.C_below HR.out (below_alloc (Below.refl w.heap.size w) (.cells #[.int .i64 we, .slice A l.length c] 24))) HW.out HN.out)
  have HB := Aside0.mk hb2; clear hb2
  go_wp2_with fail
  refine (is_calls _ _ HDB.out _).mono ?_; rintro e w3 ⟨rfl, ⟨q3, rfl⟩⟩
  go_wp2_with fail
  go_ret2
  exact ⟨ret_pair HT.out, fin (HB.out.drewN _)⟩
end Go.Proofs.Ytoncignjcgjhhaa.H
namespace Go.Proofs.Ytoncignjcgjhhaa.H
open Go.RowKit Go.Maps Go.Proofs.YtoncignjcgjhhaaW.PrintWords Go.Proofs.YtoncignjcgjhhaaW.PrintLast Go.Proofs.YtoncignjcgjhhaaW.PrintMore
open Go.Proofs.Ytoncignjcgjhhaa.Q (S63 k63 z63)
theorem nextF_up (we : Int) (l : List M.Rul) : ∀ (f : Nat) (n : Int), (M.nextF we l 1 f n).2 = 0 → n ≤ (M.nextF we l 1 f n).1
 | 0, n, h => by simp [M.nextF] at h
 | f + 1, n, h => by
  unfold M.nextF at h ⊢
  split at h
  ·
   split at h
   ·
    rename_i a b; rw [if_pos a, if_pos b]; exact Int.le_refl _
   ·
    rename_i a b; rw [if_pos a, if_neg b]; have := nextF_up we l f (n + 1) h; omega
  ·
   simp at h
theorem nextF_down (we : Int) (l : List M.Rul) : ∀ (f : Nat) (n : Int), (M.nextF we l (-1) f n).2 = 0 → (M.nextF we l (-1) f n).1 ≤ n
 | 0, n, h => by simp [M.nextF] at h
 | f + 1, n, h => by
  unfold M.nextF at h ⊢
  split at h
  ·
   split at h
   ·
    rename_i a b; rw [if_pos a, if_pos b]; exact Int.le_refl _
   ·
    rename_i a b; rw [if_pos a, if_neg b]; have := nextF_down we l f (n + -1) h; omega
  ·
   simp at h
theorem addF_zero {we : Int} {l : List M.Rul} {d : Int} {f : Nat} {n : Int} {ans : Int × Int} (h : M.addF we l d f n 0 = ans) (hf : f ≠ 0) : (n, 0) = ans := by
  obtain ⟨k, rfl⟩ : ∃ k, f = k + 1 := ⟨f - 1, by omega⟩
  unfold M.addF at h; rw [if_pos rfl] at h; exact h
theorem addF_on {we : Int} {l : List M.Rul} {d : Int} {f : Nat} {n j : Int} {ans p : Int × Int} (h : M.addF we l d f n j = ans) (hf : f ≠ 0) (hj : ¬ j = 0) (hp : M.next we l (n + d) d = p) (h2 : p.2 = 0) : M.addF we l d (f - 1) p.1 (j - d) = ans := by
 subst hp
 obtain ⟨k, rfl⟩ : ∃ k, f = k + 1 := ⟨f - 1, by omega⟩
 unfold M.addF at h; rw [if_neg hj, if_pos h2] at h; exact h
theorem addF_out {we : Int} {l : List M.Rul} {d : Int} {f : Nat} {n j : Int} {ans p : Int × Int} (h : M.addF we l d f n j = ans) (hf : f ≠ 0) (hj : ¬ j = 0) (hp : M.next we l (n + d) d = p) (h2 : ¬ p.2 = 0) : (0, 51) = ans := by
 subst hp
 obtain ⟨k, rfl⟩ : ∃ k, f = k + 1 := ⟨f - 1, by omega⟩
 unfold M.addF at h; rw [if_neg hj, if_neg h2] at h; exact h
set_option maxHeartbeats 2000000 in
set_option maxRecDepth 100000 in
theorem Add_calls (we : Int) (A : Option Addr) (c : Nat) (l : List S63) (n k : Int) (w : World) (hr : Kd.C k63 w A l.length l) (hw : ∀ x ∈ l, wfS x) (hk64 : L.i64 k) :
  Calls Try.prog 40 #[.agg #[.int .i64 we, .slice A l.length c], .int .i64 n, .int .i64 k] w fun e w' => e = .returned (.tuple #[.int .i64 (M.Add we (l.map ru) n k).1, .int .i64 (M.Add we (l.map ru) n k).2]) ∧ Below w.heap.size w w' := by
 have HR := Aside0.mk hr;have HW := Aside0.mk hw;clear hr hw
 by_cases hne : (M.chk we (l.map ru)).1 = 0
 rotate_left
 ·
  have HT := Aside0.mk (show (0, (M.chk we (l.map ru)).1) = M.Add we (l.map ru) n k by unfold M.Add; rw [if_neg hne])
  have hb : ((M.chk we (l.map ru)).1 != 0) = true := by simpa using hne
  have HN := Aside0.mk hne; clear hne
  go_enter Try.func40, Try.ntmps40
  go_wp2_with fail
  refine (begin_err we A c l _ (Kd.C_below HR.out (below_alloc (Below.refl _ _) _)) HW.out HN.out).mono ?_; rintro e w2 ⟨rfl, hb2⟩
  have HB2 := Aside0.mk (below_step (below_alloc (Below.refl _ _) _) hb2); clear hb2
  go_wp2_with fail
  go_ret2
  exact ⟨ret_pair HT.out, HB2.out⟩
 have HN := Aside0.mk hne
 have HU := Aside0.mk (show M.Add we (l.map ru) n k = _ by unfold M.Add; rw [if_pos hne])
 clear hne;have hk64a := hk64.1;have hk64b := hk64.2;clear hk64
 by_cases hx : M.isDay n
 rotate_left
 ·
  have HT := Aside0.mk (show (0, 51) = M.Add we (l.map ru) n k by rw [HU.out, if_neg hx])
  have HDB := Aside0.mk (decide_eq_false (show ¬ (0 ≤ n ∧ n ≤ 109572) from hx)); clear hx
  go_enter Try.func40, Try.ntmps40
  go_wp2_with fail
  refine (begin_ok we A c l _ (Kd.C_below HR.out (below_alloc (Below.refl _ _) _)) HW.out HN.out).mono ?_; rintro e w2 ⟨bb, rfl, hb2⟩
  have HO := Aside0.mk (ok_of we A l _ (Kd.C_below HR.out (below_alloc (Below.refl w.heap.size w) (.cells #[.int .i64 we, .slice A l.length c] 24))) HW.out HN.out)
  have HB := Aside0.mk hb2; clear hb2
  go_wp2_with fail
  refine (is_calls _ _ HDB.out _).mono ?_; rintro e w3 ⟨rfl, ⟨q3, rfl⟩⟩
  go_wp2_with fail
  go_ret2
  exact ⟨ret_pair HT.out, fin (HB.out.drewN _)⟩
 have HX := Aside0.mk hx
 have hx0 : -1 ≤ n := by have := hx.1; omega
 have hx1 : n ≤ 109573 := by have := hx.2; omega
 have HDB := Aside0.mk (decide_eq_true (show 0 ≤ n ∧ n ≤ 109572 from hx))
 have HV := Aside0.mk (show M.Add we (l.map ru) n k = _ by rw [HU.out, if_pos hx])
 clear hx HU
 by_cases hk : k = 0
 ·
  subst hk
  have HT := Aside0.mk (show M.next we (l.map ru) n 1 = M.Add we (l.map ru) n 0 by rw [HV.out, if_pos rfl])
  clear HV
  go_enter Try.func40, Try.ntmps40
  go_wp2_with fail
  refine (begin_ok we A c l _ (Kd.C_below HR.out (below_alloc (Below.refl _ _) _)) HW.out HN.out).mono ?_; rintro e w2 ⟨bb, rfl, hb2⟩
  have HO := Aside0.mk (ok_of we A l _ (Kd.C_below HR.out (below_alloc (Below.refl w.heap.size w) (.cells #[.int .i64 we, .slice A l.length c] 24))) HW.out HN.out)
  have HB := Aside0.mk hb2; clear hb2
  go_wp2_with fail
  refine (is_calls _ _ HDB.out _).mono ?_; rintro e w3 ⟨rfl, ⟨q3, rfl⟩⟩
  go_wp2_with fail
  refine (next_calls _ _ bb we A c l 0 _ _ (by repeat (with_reducible first | exact HB.out | refine Book.drewN ?_ _ | refine Book.drew ?_)) HO.out (.inl rfl) hx0 hx1 (by unfold maxLen; omega)).mono ?_; rw [HT.out]; rintro e w4 ⟨rfl, hb4⟩
  have HB4 := Aside0.mk hb4; clear hb4
  go_wp2_with fail
  go_ret2
  exact ⟨rfl, fin HB4.out⟩
 have hkb : (k == 0) = false := by simpa using hk
 by_cases hneg : k < 0
 ·
  have HT := Aside0.mk (show M.addF we (l.map ru) (-1) 109580 n k = M.Add we (l.map ru) n k by rw [HV.out, if_neg hk, if_pos hneg])
  have hx0b : 0 ≤ n := HX.out.1
  have hx1b : n ≤ 109572 := HX.out.2
  clear HV
  go_enter Try.func40, Try.ntmps40
  go_wp2_with fail
  refine (begin_ok we A c l _ (Kd.C_below HR.out (below_alloc (Below.refl _ _) _)) HW.out HN.out).mono ?_; rintro e w2 ⟨bb, rfl, hb2⟩
  have HO := Aside0.mk (ok_of we A l _ (Kd.C_below HR.out (below_alloc (Below.refl w.heap.size w) (.cells #[.int .i64 we, .slice A l.length c] 24))) HW.out HN.out)
  have HB := Aside0.mk hb2; clear hb2
  go_wp2_with fail
  refine (is_calls _ _ HDB.out _).mono ?_; rintro e w3 ⟨rfl, ⟨q3, rfl⟩⟩
  go_wp2_with fail
  go_loopg [1, 2] 109580 (fun kq v1 v2 w' => ∃ y j : Int, 0 ≤ y ∧ y ≤ 109572 ∧ -9223372036854775808 ≤ j ∧ j ≤ 0 ∧ kq ≤ 109580 ∧ y < kq ∧ v1 = .int .i64 y ∧ v2 = .int .i64 j ∧ Aside0 (M.addF we (l.map ru) (-1) kq y j = M.Add we (l.map ru) n k) ∧ Aside0 (Book (w.alloc (.cells #[.int .i64 we, .slice A l.length c] 24)) w' bb we A c l (22000000 * (109580 - kq))))
  case atStart => exact ⟨n, k, by omega, by omega, by omega, by omega, by omega, by omega, rfl, rfl, HT, ⟨Book.mono (n := 0) (by repeat (with_reducible first | exact HB.out | refine Book.drewN ?_ _ | refine Book.drew ?_)) (by omega)⟩⟩
  case round =>
   obtain ⟨y, j, hy0, hy1, hj0, hj1, hkq, hfu, rfl, rfl, HF, HB2⟩ := hrel
   clear HB
   have hgk : gk ≠ 0 := by omega
   by_cases hj : j = 0
   ·
    subst hj
    have HE := Aside0.mk (addF_zero HF.out hgk)
    go_wp2_with fail
    go_ret2
    exact ⟨ret_pair HE.out, fin HB2.out⟩
   ·
    have hjb : (j != 0) = true := by simpa using hj
    have hjs : j ≤ -1 := by omega
    obtain ⟨p, hp⟩ : ∃ p, M.next we (l.map ru) (y + (-1)) (-1) = p := ⟨_, rfl⟩
    have hres := M.next_res we (l.map ru) (y + (-1)) (-1)
    have hmv := nextF_down we (l.map ru) 109580 (y + (-1))
    have e : M.nextF we (l.map ru) (-1) 109580 (y + (-1)) = p := hp
    rw [e] at hmv
    rw [hp] at hres
    by_cases h2 : p.2 = 0
    ·
     have HE := Aside0.mk (addF_on HF.out hgk hj hp h2)
     have hmv2 := hmv h2;have HP := Aside0.mk hp
     obtain ⟨p1, p2⟩ := p
     simp only at h2 hres hmv2 HE
     subst h2
     have hday : M.isDay p1 := by rcases hres with h | h; (injection h with h1 h2; cases h2); exact h.2.1
     have hday0 := hday.1;have hday1 := hday.2;clear hres hmv e hp hday hj
     go_wp2_with fail
     refine (next_calls _ _ bb we A c l (22000000 * (109580 - gk)) _ _ HB2.out HO.out (.inr rfl) (by omega) (by omega) (by unfold maxLen; omega)).mono ?_; rw [HP.out]; rintro e w4 ⟨rfl, hb4⟩
     have HB4 := Aside0.mk hb4; clear hb4
     go_wp2_with fail
     go_roundg (gk - 1)
     case measure => omega
     case rel => exact ⟨p1, j - (-1), by omega, by omega, by omega, by omega, by omega, by omega, rfl, by go_num, HE, ⟨HB4.out.mono (by omega)⟩⟩
    ·
     have HE := Aside0.mk (addF_out HF.out hgk hj hp h2)
     have HP := Aside0.mk hp
     have hp51 : p = (0, 51) := by rcases hres with h | h; exact h; exact absurd h.1 h2
     subst hp51;clear hres hmv e hp h2 hj
     go_wp2_with fail
     refine (next_calls _ _ bb we A c l (22000000 * (109580 - gk)) _ _ HB2.out HO.out (.inr rfl) (by omega) (by omega) (by unfold maxLen; omega)).mono ?_; rw [HP.out]; rintro e w4 ⟨rfl, hb4⟩
     have HB4 := Aside0.mk hb4; clear hb4
     go_wp2_with fail
     go_ret2
     exact ⟨ret_pair HE.out, fin HB4.out⟩
 ·
  have HT := Aside0.mk (show M.addF we (l.map ru) 1 109580 n k = M.Add we (l.map ru) n k by rw [HV.out, if_neg hk, if_neg hneg])
  have hx0b : 0 ≤ n := HX.out.1
  have hx1b : n ≤ 109572 := HX.out.2
  clear HV
  go_enter Try.func40, Try.ntmps40
  go_wp2_with fail
  refine (begin_ok we A c l _ (Kd.C_below HR.out (below_alloc (Below.refl _ _) _)) HW.out HN.out).mono ?_; rintro e w2 ⟨bb, rfl, hb2⟩
  have HO := Aside0.mk (ok_of we A l _ (Kd.C_below HR.out (below_alloc (Below.refl w.heap.size w) (.cells #[.int .i64 we, .slice A l.length c] 24))) HW.out HN.out)
  have HB := Aside0.mk hb2; clear hb2
  go_wp2_with fail
  refine (is_calls _ _ HDB.out _).mono ?_; rintro e w3 ⟨rfl, ⟨q3, rfl⟩⟩
  go_wp2_with fail
  go_loopg [1, 2] 109580 (fun kq v1 v2 w' => ∃ y j : Int, 0 ≤ y ∧ y ≤ 109572 ∧ 0 ≤ j ∧ j ≤ 9223372036854775807 ∧ kq ≤ 109580 ∧ 109572 - y < kq ∧ v1 = .int .i64 y ∧ v2 = .int .i64 j ∧ Aside0 (M.addF we (l.map ru) 1 kq y j = M.Add we (l.map ru) n k) ∧ Aside0 (Book (w.alloc (.cells #[.int .i64 we, .slice A l.length c] 24)) w' bb we A c l (22000000 * (109580 - kq))))
  case atStart => exact ⟨n, k, by omega, by omega, by omega, by omega, by omega, by omega, rfl, rfl, HT, ⟨Book.mono (n := 0) (by repeat (with_reducible first | exact HB.out | refine Book.drewN ?_ _ | refine Book.drew ?_)) (by omega)⟩⟩
  case round =>
   obtain ⟨y, j, hy0, hy1, hj0, hj1, hkq, hfu, rfl, rfl, HF, HB2⟩ := hrel
   clear HB
   have hgk : gk ≠ 0 := by omega
   by_cases hj : j = 0
   ·
    subst hj
    have HE := Aside0.mk (addF_zero HF.out hgk)
    go_wp2_with fail
    go_ret2
    exact ⟨ret_pair HE.out, fin HB2.out⟩
   ·
    have hjb : (j != 0) = true := by simpa using hj
    have hjs : 1 ≤ j := by omega
    obtain ⟨p, hp⟩ : ∃ p, M.next we (l.map ru) (y + 1) 1 = p := ⟨_, rfl⟩
    have hres := M.next_res we (l.map ru) (y + 1) 1
    have hmv := nextF_up we (l.map ru) 109580 (y + 1)
    have e : M.nextF we (l.map ru) 1 109580 (y + 1) = p := hp
    rw [e] at hmv
    rw [hp] at hres
    by_cases h2 : p.2 = 0
    ·
     have HE := Aside0.mk (addF_on HF.out hgk hj hp h2)
     have hmv2 := hmv h2;have HP := Aside0.mk hp
     obtain ⟨p1, p2⟩ := p
     simp only at h2 hres hmv2 HE
     subst h2
     have hday : M.isDay p1 := by rcases hres with h | h; (injection h with h1 h2; cases h2); exact h.2.1
     have hday0 := hday.1;have hday1 := hday.2;clear hres hmv e hp hday hj
     go_wp2_with fail
     refine (next_calls _ _ bb we A c l (22000000 * (109580 - gk)) _ _ HB2.out HO.out (.inl rfl) (by omega) (by omega) (by unfold maxLen; omega)).mono ?_; rw [HP.out]; rintro e w4 ⟨rfl, hb4⟩
     have HB4 := Aside0.mk hb4; clear hb4
     go_wp2_with fail
     go_roundg (gk - 1)
     case measure => omega
     case rel => exact ⟨p1, j - 1, by omega, by omega, by omega, by omega, by omega, by omega, rfl, by go_num, HE, ⟨HB4.out.mono (by omega)⟩⟩
    ·
     have HE := Aside0.mk (addF_out HF.out hgk hj hp h2)
     have HP := Aside0.mk hp
     have hp51 : p = (0, 51) := by rcases hres with h | h; exact h; exact absurd h.1 h2
     subst hp51;clear hres hmv e hp h2 hj
     go_wp2_with fail
     refine (next_calls _ _ bb we A c l (22000000 * (109580 - gk)) _ _ HB2.out HO.out (.inl rfl) (by omega) (by omega) (by unfold maxLen; omega)).mono ?_; rw [HP.out]; rintro e w4 ⟨rfl, hb4⟩
     have HB4 := Aside0.mk hb4; clear hb4
     go_wp2_with fail
     go_ret2
     exact ⟨ret_pair HE.out, fin HB4.out⟩
end Go.Proofs.Ytoncignjcgjhhaa.H
