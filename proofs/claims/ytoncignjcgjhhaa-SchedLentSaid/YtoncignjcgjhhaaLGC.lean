/- Contracts and facts of functions of the program (calendar, dates and their documents), joined in one text by a program of this session. No condition but what each theorem states. -/
import Derived.Test.YtoncignjcgjhhaaLGA
import Derived.Test.YtoncignjcgjhhaaLGB
import Derived.Test.YtoncignjcgjhhaaRows
import Derived.Lib.SmallJoins
import Derived.Deep.Slices
import Derived.Deep.Fields
import Derived.ChangeSame
import Derived.ProofKit
import Derived.OpenShut
import Derived.ChangeOld
import Derived.SizedLaws
import Derived.Maps.Views
set_option linter.unusedVariables false
set_option linter.unusedSimpArgs false
namespace Go.Proofs.Ytoncignjcgjhhaa.H
open Go.RowKit Go.Maps Go.Proofs.YtoncignjcgjhhaaW.PrintWords Go.Proofs.YtoncignjcgjhhaaW.PrintLast Go.Proofs.YtoncignjcgjhhaaW.PrintMore
open Go.Proofs.Ytoncignjcgjhhaa.Q (S63 k63 z63)
def ru (x : S63) : M.Rul := ⟨x.f0, x.f1, x.f2, x.f3, x.f4, x.f5, x.f6, x.f7, x.f8⟩
theorem kind_1 (a1 a2 a3 a4 a5 a6 a7 a8 : Int) (w : World) :
  Calls Try.prog 84 #[.agg #[.int .i64 1, .int .i64 a1, .int .i64 a2, .int .i64 a3, .int .i64 a4, .int .i64 a5, .int .i64 a6, .int .i64 a7, .int .i64 a8]] w fun e w' =>
   e = .returned (.iface 132 (.agg #[.int .i64 1, .int .i64 a1, .int .i64 a2, .int .i64 a3, .int .i64 a4, .int .i64 a5, .int .i64 a6, .int .i64 a7, .int .i64 a8])) ∧ Below w.heap.size w w' := by
 go_enter Try.func84, Try.ntmps84
 go_wp2
 go_ret
 exact ⟨rfl, below_alloc (Below.refl _ _) _⟩
theorem kind_2 (a1 a2 a3 a4 a5 a6 a7 a8 : Int) (w : World) :
  Calls Try.prog 84 #[.agg #[.int .i64 2, .int .i64 a1, .int .i64 a2, .int .i64 a3, .int .i64 a4, .int .i64 a5, .int .i64 a6, .int .i64 a7, .int .i64 a8]] w fun e w' =>
   e = .returned (.iface 133 (.agg #[.int .i64 2, .int .i64 a1, .int .i64 a2, .int .i64 a3, .int .i64 a4, .int .i64 a5, .int .i64 a6, .int .i64 a7, .int .i64 a8])) ∧ Below w.heap.size w w' := by
 go_enter Try.func84, Try.ntmps84
 go_wp2
 go_ret
 exact ⟨rfl, below_alloc (Below.refl _ _) _⟩
theorem kind_3 (a1 a2 a3 a4 a5 a6 a7 a8 : Int) (w : World) :
  Calls Try.prog 84 #[.agg #[.int .i64 3, .int .i64 a1, .int .i64 a2, .int .i64 a3, .int .i64 a4, .int .i64 a5, .int .i64 a6, .int .i64 a7, .int .i64 a8]] w fun e w' =>
   e = .returned (.iface 134 (.agg #[.int .i64 3, .int .i64 a1, .int .i64 a2, .int .i64 a3, .int .i64 a4, .int .i64 a5, .int .i64 a6, .int .i64 a7, .int .i64 a8])) ∧ Below w.heap.size w w' := by
 go_enter Try.func84, Try.ntmps84
 go_wp2
 go_ret
 exact ⟨rfl, below_alloc (Below.refl _ _) _⟩
theorem kind_4 (a1 a2 a3 a4 a5 a6 a7 a8 : Int) (w : World) :
  Calls Try.prog 84 #[.agg #[.int .i64 4, .int .i64 a1, .int .i64 a2, .int .i64 a3, .int .i64 a4, .int .i64 a5, .int .i64 a6, .int .i64 a7, .int .i64 a8]] w fun e w' =>
   e = .returned (.iface 135 (.agg #[.int .i64 4, .int .i64 a1, .int .i64 a2, .int .i64 a3, .int .i64 a4, .int .i64 a5, .int .i64 a6, .int .i64 a7, .int .i64 a8])) ∧ Below w.heap.size w w' := by
 go_enter Try.func84, Try.ntmps84
 go_wp2
 go_ret
 exact ⟨rfl, below_alloc (Below.refl _ _) _⟩
theorem kind_0 (a0 a1 a2 a3 a4 a5 a6 a7 a8 : Int) (w : World) (h1 : ¬ a0 = 1) (h2 : ¬ a0 = 2) (h3 : ¬ a0 = 3) (h4 : ¬ a0 = 4) :
  Calls Try.prog 84 #[.agg #[.int .i64 a0, .int .i64 a1, .int .i64 a2, .int .i64 a3, .int .i64 a4, .int .i64 a5, .int .i64 a6, .int .i64 a7, .int .i64 a8]] w fun e w' =>
   e = .returned .nilIface ∧ Below w.heap.size w w' := by
 have g1 : (a0 == 1) = false := by simpa using h1
 have g2 : (a0 == 2) = false := by simpa using h2
 have g3 : (a0 == 3) = false := by simpa using h3
 have g4 : (a0 == 4) = false := by simpa using h4
 go_enter Try.func84, Try.ntmps84
 go_wp2
 go_ret
 exact ⟨rfl, below_alloc (Below.refl _ _) _⟩
theorem may_132 (v : Array Value) (w : World) : (method 274 132 (.agg v) "tenor/cal.may").run Try.prog w = .ok (156, .agg v) w := by kernel_rfl
theorem may_133 (v : Array Value) (w : World) : (method 274 133 (.agg v) "tenor/cal.may").run Try.prog w = .ok (159, .agg v) w := by kernel_rfl
theorem may_134 (v : Array Value) (w : World) : (method 274 134 (.agg v) "tenor/cal.may").run Try.prog w = .ok (161, .agg v) w := by kernel_rfl
theorem may_135 (v : Array Value) (w : World) : (method 274 135 (.agg v) "tenor/cal.may").run Try.prog w = .ok (164, .agg v) w := by kernel_rfl
theorem day_132 (v : Array Value) (w : World) : (method 274 132 (.agg v) "tenor/cal.day").run Try.prog w = .ok (155, .agg v) w := by kernel_rfl
theorem day_133 (v : Array Value) (w : World) : (method 274 133 (.agg v) "tenor/cal.day").run Try.prog w = .ok (158, .agg v) w := by kernel_rfl
theorem day_134 (v : Array Value) (w : World) : (method 274 134 (.agg v) "tenor/cal.day").run Try.prog w = .ok (160, .agg v) w := by kernel_rfl
theorem day_135 (v : Array Value) (w : World) : (method 274 135 (.agg v) "tenor/cal.day").run Try.prog w = .ok (163, .agg v) w := by kernel_rfl
theorem within_calls (a b c : Int) (r : Bool) (hr : decide (b ≤ a ∧ a ≤ c) = r) (w : World) :
  Calls Try.prog 83 #[.int .i64 a, .int .i64 b, .int .i64 c] w fun e w' => e = .returned (.bool r) ∧ Drawn0 w w' :=
 Q.cal_within.calls a b c r w (by rw [L.within, hr])
theorem mayC_1 (a1 a2 a3 a4 a5 a6 a7 a8 : Int) (h3 : L.i64 a3) (h4 : L.i64 a4) (h5 : L.i64 a5) (b : Bool) (hb : M.may ⟨1, a1, a2, a3, a4, a5, a6, a7, a8⟩ = b) (w : World) :
  Calls Try.prog 156 #[.agg #[.int .i64 1, .int .i64 a1, .int .i64 a2, .int .i64 a3, .int .i64 a4, .int .i64 a5, .int .i64 a6, .int .i64 a7, .int .i64 a8]] w fun e w' => e = .returned (.bool b) ∧ Below w.heap.size w w' := by
 subst hb
 exact Q.cal_fixed_may.calls 1 1 a1 a2 a3 a4 a5 a6 a7 a8 _ w (L.may_fixed h3 h4 h5 0)
theorem mayC_2 (a1 a2 a3 a4 a5 a6 a7 a8 : Int) (h2 : L.i64 a2) (h5 : L.i64 a5) (b : Bool) (hb : M.may ⟨2, a1, a2, a3, a4, a5, a6, a7, a8⟩ = b) (w : World) :
  Calls Try.prog 159 #[.agg #[.int .i64 2, .int .i64 a1, .int .i64 a2, .int .i64 a3, .int .i64 a4, .int .i64 a5, .int .i64 a6, .int .i64 a7, .int .i64 a8]] w fun e w' => e = .returned (.bool b) ∧ Below w.heap.size w w' := by
 subst hb
 exact Q.cal_nth_may.calls 2 a1 a2 a3 a4 a5 a6 a7 a8 _ w (L.may_nth h2 h5)
theorem mayC_3 (a1 a2 a3 a4 a5 a6 a7 a8 : Int) (h1 : L.i64 a1) (h2 : L.i64 a2) (h3 : L.i64 a3) (h4 : L.i64 a4) (b : Bool) (hb : M.may ⟨3, a1, a2, a3, a4, a5, a6, a7, a8⟩ = b) (w : World) :
  Calls Try.prog 161 #[.agg #[.int .i64 3, .int .i64 a1, .int .i64 a2, .int .i64 a3, .int .i64 a4, .int .i64 a5, .int .i64 a6, .int .i64 a7, .int .i64 a8]] w fun e w' => e = .returned (.bool b) ∧ Below w.heap.size w w' := by
 subst hb
 exact Q.cal_easter_may.calls 3 a1 a2 a3 a4 a5 a6 a7 a8 _ w (L.may_easter h1 h2 h3 h4)
theorem mayC_4 (a1 a2 a3 a4 a5 a6 a7 a8 : Int) (h1 : L.i64 a1) (h3 : L.i64 a3) (h4 : L.i64 a4) (h5 : L.i64 a5) (h6 : L.i64 a6) (h7 : L.i64 a7) (h8 : L.i64 a8) (b : Bool) (hb : M.may ⟨4, a1, a2, a3, a4, a5, a6, a7, a8⟩ = b) (w : World) :
  Calls Try.prog 164 #[.agg #[.int .i64 4, .int .i64 a1, .int .i64 a2, .int .i64 a3, .int .i64 a4, .int .i64 a5, .int .i64 a6, .int .i64 a7, .int .i64 a8]] w fun e w' => e = .returned (.bool b) ∧ Below w.heap.size w w' := by
 subst hb
 exact Q.cal_single_may.calls 4 a1 a2 a3 a4 a5 a6 a7 a8 _ w (L.may_single h1 h3 h4 h5 h6 h7 h8)
def wfS (x : S63) : Prop := L.i64 x.f0 ∧ L.i64 x.f1 ∧ L.i64 x.f2 ∧ L.i64 x.f3 ∧ L.i64 x.f4 ∧ L.i64 x.f5 ∧ L.i64 x.f6 ∧ L.i64 x.f7 ∧ L.i64 x.f8
theorem ret_pair {k k' : IntKind} {a b : Int} {q : Int × Int} (h : (a, b) = q) : Ending.returned (.tuple #[.int k a, .int k' b]) = .returned (.tuple #[.int k q.1, .int k' q.2]) := by rw [← h]
theorem chk_at {we : Int} {l : List M.Rul} (h : l.length ≤ 64) (h0 : 0 ≤ we) (h1 : we ≤ 126) : M.chkAt l 0 = M.chk we l := by
  unfold M.chk; rw [if_neg (by omega), if_pos ⟨h0, h1⟩]
theorem chkAt_step {l : List M.Rul} {i : Nat} (hi : i < l.length) {ans : Int × Int} (h : M.chkAt (l.drop i) i = ans) :
  (M.may l[i] = true → M.chkAt (l.drop (i + 1)) ((i + 1 : Nat) : Int) = ans) ∧ (M.may l[i] = false → (60, (i : Int)) = ans) := by
 rw [List.drop_eq_getElem_cons hi] at h
 unfold M.chkAt at h
 constructor
 ·
  intro hm; rw [if_pos hm] at h; push_cast; exact h
 ·
  intro hm; rw [if_neg (by simp [hm])] at h; exact h
theorem chkAt_end {l : List M.Rul} {i : Nat} (hi : i = l.length) {ans : Int × Int} (h : M.chkAt (l.drop i) i = ans) : (0, 0) = ans := by
  subst hi; rw [List.drop_length] at h; exact h
theorem cellsBelow {w w1 : World} (hb : Below w.heap.size w w1) {a : Addr} {v : Value} (h : w.cell? a = some v) : w1.cell? a = some v := (hb.cell (World.block_lt_of_cell? w _ h)).trans h
theorem rule_at {w : World} {A : Option Addr} {l : List S63} (h : Kd.C k63 w A l.length l) (i : Nat) (hi : i < l.length) (wr : World) (hb : Below w.heap.size w wr) : ∃ ad a0 a1 a2 a3 a4 a5 a6 a7 a8, A = some ad ∧ l[i] = ⟨a0, a1, a2, a3, a4, a5, a6, a7, a8⟩ ∧
  wr.cell? (ad.add (i * 9)) = some (.int .i64 a0) ∧ wr.cell? ⟨(ad.add (i * 9)).block, (ad.add (i * 9)).off + 1, none⟩ = some (.int .i64 a1) ∧ wr.cell? ⟨(ad.add (i * 9)).block, (ad.add (i * 9)).off + 2, none⟩ = some (.int .i64 a2) ∧
  wr.cell? ⟨(ad.add (i * 9)).block, (ad.add (i * 9)).off + 3, none⟩ = some (.int .i64 a3) ∧ wr.cell? ⟨(ad.add (i * 9)).block, (ad.add (i * 9)).off + 4, none⟩ = some (.int .i64 a4) ∧ wr.cell? ⟨(ad.add (i * 9)).block, (ad.add (i * 9)).off + 5, none⟩ = some (.int .i64 a5) ∧
  wr.cell? ⟨(ad.add (i * 9)).block, (ad.add (i * 9)).off + 6, none⟩ = some (.int .i64 a6) ∧ wr.cell? ⟨(ad.add (i * 9)).block, (ad.add (i * 9)).off + 7, none⟩ = some (.int .i64 a7) ∧ wr.cell? ⟨(ad.add (i * 9)).block, (ad.add (i * 9)).off + 8, none⟩ = some (.int .i64 a8) := by
 obtain ⟨ad, hA, x0, x1, x2, x3, x4, x5, x6, x7, x8⟩ := Q.at_T63 h (i : Int) (by omega) (by omega)
 have e : Q.rd_T63 l (i : Int) = l[i] := by simp [Q.rd_T63, hi]
 rw [e, Int.toNat_natCast] at x0 x1 x2 x3 x4 x5 x6 x7 x8
 exact ⟨ad, _, _, _, _, _, _, _, _, _, hA, rfl, cellsBelow hb x0, cellsBelow hb x1, cellsBelow hb x2, cellsBelow hb x3, cellsBelow hb x4, cellsBelow hb x5, cellsBelow hb x6, cellsBelow hb x7, cellsBelow hb x8⟩
set_option maxHeartbeats 2000000 in
set_option maxRecDepth 100000 in
theorem check_loop (we : Int) (A : Option Addr) (c : Nat) (l : List S63) (w : World) (hr : Kd.C k63 w A l.length l) (hw : ∀ x ∈ l, wfS x) (h64 : l.length ≤ 64) (h0 : 0 ≤ we) (h1 : we ≤ 126) :
  Calls Try.prog 44 #[.agg #[.int .i64 we, .slice A l.length c]] w fun e w' => e = .returned (.tuple #[.int .i64 (M.chk we (l.map ru)).1, .int .i64 (M.chk we (l.map ru)).2]) ∧ Below w.heap.size w w' := by
 have HR := Aside0.mk hr; clear hr
 have HW := Aside0.mk hw; clear hw
 have hlen : decide (64 < l.length) = false := by simpa using h64
 have hst := Aside0.mk (chk_at (l := l.map ru) (by simpa using h64) h0 h1)
 go_enter Try.func44, Try.ntmps44
 have hwt : decide (0 ≤ we ∧ we ≤ 126) = true := by simp; omega
 go_wp2_with (go_at_call 83; refine (within_calls _ _ _ _ hwt _).mono ?_; rintro e w' ⟨rfl, ⟨n0, rfl⟩⟩)
 go_loopg [18] (l.length) (fun kq v4 w' => ∃ i : Nat, i ≤ l.length ∧ kq + i = l.length ∧ v4 = .int .i64 i ∧ Aside0 (M.chkAt ((l.map ru).drop i) i = M.chk we (l.map ru)) ∧ Aside0 (Below w.heap.size w w'))
 case atStart => exact ⟨0, by omega, by omega, rfl, ⟨by simpa using hst.out⟩, ⟨by repeat (first | exact Below.refl _ _ | apply pw_below_drewN | apply below_alloc)⟩⟩
 case round =>
  obtain ⟨i, hi, hk, rfl, HA, HB⟩ := hrel
  by_cases hlt : i < l.length
  ·
   obtain ⟨ad, a0, a1, a2, a3, a4, a5, a6, a7, a8, rfl, hx, x0, x1, x2, x3, x4, x5, x6, x7, x8⟩ := rule_at HR.out i hlt wr HB.out
   have hwx := HW.out l[i] (List.getElem_mem hlt)
   have hs := chkAt_step (l := l.map ru) (i := i) (by simpa using hlt) HA.out
   rw [List.getElem_map, hx] at hs
   rw [hx] at hwx
   obtain ⟨w0, w1, w2, w3, w4, w5, w6, w7, w8⟩ := hwx
   simp only [ru] at hs w0 w1 w2 w3 w4 w5 w6 w7 w8
   clear hx
   have HW0 := Aside0.mk w0; have HW1 := Aside0.mk w1; have HW2 := Aside0.mk w2; have HW3 := Aside0.mk w3; have HW4 := Aside0.mk w4; have HW5 := Aside0.mk w5; have HW6 := Aside0.mk w6; have HW7 := Aside0.mk w7; have HW8 := Aside0.mk w8
   clear w0 w1 w2 w3 w4 w5 w6 w7 w8
   have HS := Aside0.mk hs; clear hs
   by_cases k1 : a0 = 1
   ·
    subst k1;have hmeth := may_132
    cases hm : M.may ⟨1, a1, a2, a3, a4, a5, a6, a7, a8⟩ with
    | true =>
     have HT := Aside0.mk (HS.out.1 hm)
     have HM := Aside0.mk hm; clear hm
     go_wp2_with fail
     refine (kind_1 _ _ _ _ _ _ _ _ _).mono ?_; rintro e w1 ⟨rfl, hb1⟩
     have HB1 := Aside0.mk (below_then (by repeat (first | exact HB.out | apply pw_below_drewN | apply below_alloc)) (by have := HB.out.size; simp; omega) hb1 : Below w.heap.size w w1); clear hb1
     go_wp2_with fail
     refine (mayC_1 _ _ _ _ _ _ _ _ HW3.out HW4.out HW5.out _ HM.out _).mono ?_; rintro e w2 ⟨rfl, hb2⟩
     have HB2 := Aside0.mk (below_then HB1.out HB1.out.size hb2 : Below w.heap.size w w2); clear hb2
     go_wp2_with fail
     go_roundg (gk - 1)
     case measure => omega
     case rel => exact ⟨i + 1, by omega, by omega, by go_num, HT, ⟨by repeat (first | exact HB2.out | apply pw_below_drewN | apply below_alloc)⟩⟩
    | false =>
     have HT := Aside0.mk (HS.out.2 hm)
     have HM := Aside0.mk hm; clear hm
     go_wp2_with fail
     refine (kind_1 _ _ _ _ _ _ _ _ _).mono ?_; rintro e w1 ⟨rfl, hb1⟩
     have HB1 := Aside0.mk (below_then (by repeat (first | exact HB.out | apply pw_below_drewN | apply below_alloc)) (by have := HB.out.size; simp; omega) hb1 : Below w.heap.size w w1); clear hb1
     go_wp2_with fail
     refine (mayC_1 _ _ _ _ _ _ _ _ HW3.out HW4.out HW5.out _ HM.out _).mono ?_; rintro e w2 ⟨rfl, hb2⟩
     have HB2 := Aside0.mk (below_then HB1.out HB1.out.size hb2 : Below w.heap.size w w2); clear hb2
     go_wp2_with fail
     go_ret2
     exact ⟨ret_pair HT.out, by repeat (first | exact HB2.out | apply pw_below_drewN | apply below_alloc)⟩
   ·
    by_cases k2 : a0 = 2
    ·
     subst k2;have hmeth := may_133
     cases hm : M.may ⟨2, a1, a2, a3, a4, a5, a6, a7, a8⟩ with
     | true =>
      have HT := Aside0.mk (HS.out.1 hm)
      have HM := Aside0.mk hm; clear hm
      go_wp2_with fail
      refine (kind_2 _ _ _ _ _ _ _ _ _).mono ?_; rintro e w1 ⟨rfl, hb1⟩
      have HB1 := Aside0.mk (below_then (by repeat (first | exact HB.out | apply pw_below_drewN | apply below_alloc)) (by have := HB.out.size; simp; omega) hb1 : Below w.heap.size w w1); clear hb1
      go_wp2_with fail
      refine (mayC_2 _ _ _ _ _ _ _ _ HW2.out HW5.out _ HM.out _).mono ?_; rintro e w2 ⟨rfl, hb2⟩
      have HB2 := Aside0.mk (below_then HB1.out HB1.out.size hb2 : Below w.heap.size w w2); clear hb2
      go_wp2_with fail
      go_roundg (gk - 1)
      case measure => omega
      case rel => exact ⟨i + 1, by omega, by omega, by go_num, HT, ⟨by repeat (first | exact HB2.out | apply pw_below_drewN | apply below_alloc)⟩⟩
     | false =>
      have HT := Aside0.mk (HS.out.2 hm)
      have HM := Aside0.mk hm; clear hm
      go_wp2_with fail
      refine (kind_2 _ _ _ _ _ _ _ _ _).mono ?_; rintro e w1 ⟨rfl, hb1⟩
      have HB1 := Aside0.mk (below_then (by repeat (first | exact HB.out | apply pw_below_drewN | apply below_alloc)) (by have := HB.out.size; simp; omega) hb1 : Below w.heap.size w w1); clear hb1
      go_wp2_with fail
      refine (mayC_2 _ _ _ _ _ _ _ _ HW2.out HW5.out _ HM.out _).mono ?_; rintro e w2 ⟨rfl, hb2⟩
      have HB2 := Aside0.mk (below_then HB1.out HB1.out.size hb2 : Below w.heap.size w w2); clear hb2
      go_wp2_with fail
      go_ret2
      exact ⟨ret_pair HT.out, by repeat (first | exact HB2.out | apply pw_below_drewN | apply below_alloc)⟩
    ·
     by_cases k3 : a0 = 3
     ·
      subst k3;have hmeth := may_134
      cases hm : M.may ⟨3, a1, a2, a3, a4, a5, a6, a7, a8⟩ with
      | true =>
       have HT := Aside0.mk (HS.out.1 hm)
       have HM := Aside0.mk hm; clear hm
       go_wp2_with fail
       refine (kind_3 _ _ _ _ _ _ _ _ _).mono ?_; rintro e w1 ⟨rfl, hb1⟩
       have HB1 := Aside0.mk (below_then (by repeat (first | exact HB.out | apply pw_below_drewN | apply below_alloc)) (by have := HB.out.size; simp; omega) hb1 : Below w.heap.size w w1); clear hb1
       go_wp2_with fail
       refine (mayC_3 _ _ _ _ _ _ _ _ HW1.out HW2.out HW3.out HW4.out _ HM.out _).mono ?_; rintro e w2 ⟨rfl, hb2⟩
       have HB2 := Aside0.mk (below_then HB1.out HB1.out.size hb2 : Below w.heap.size w w2); clear hb2
       go_wp2_with fail
       go_roundg (gk - 1)
       case measure => omega
       case rel => exact ⟨i + 1, by omega, by omega, by go_num, HT, ⟨by repeat (first | exact HB2.out | apply pw_below_drewN | apply below_alloc)⟩⟩
      | false =>
       have HT := Aside0.mk (HS.out.2 hm)
       have HM := Aside0.mk hm; clear hm
       go_wp2_with fail
       refine (kind_3 _ _ _ _ _ _ _ _ _).mono ?_; rintro e w1 ⟨rfl, hb1⟩
       have HB1 := Aside0.mk (below_then (by repeat (first | exact HB.out | apply pw_below_drewN | apply below_alloc)) (by have := HB.out.size; simp; omega) hb1 : Below w.heap.size w w1); clear hb1
       go_wp2_with fail
       refine (mayC_3 _ _ _ _ _ _ _ _ HW1.out HW2.out HW3.out HW4.out _ HM.out _).mono ?_; rintro e w2 ⟨rfl, hb2⟩
       have HB2 := Aside0.mk (below_then HB1.out HB1.out.size hb2 : Below w.heap.size w w2); clear hb2
       go_wp2_with fail
       go_ret2
       exact ⟨ret_pair HT.out, by repeat (first | exact HB2.out | apply pw_below_drewN | apply below_alloc)⟩
     ·
      by_cases k4 : a0 = 4
      ·
       subst k4;have hmeth := may_135
       cases hm : M.may ⟨4, a1, a2, a3, a4, a5, a6, a7, a8⟩ with
       | true =>
        have HT := Aside0.mk (HS.out.1 hm)
        have HM := Aside0.mk hm; clear hm
        go_wp2_with fail
        refine (kind_4 _ _ _ _ _ _ _ _ _).mono ?_; rintro e w1 ⟨rfl, hb1⟩
        have HB1 := Aside0.mk (below_then (by repeat (first | exact HB.out | apply pw_below_drewN | apply below_alloc)) (by have := HB.out.size; simp; omega) hb1 : Below w.heap.size w w1); clear hb1
        go_wp2_with fail
        refine (mayC_4 _ _ _ _ _ _ _ _ HW1.out HW3.out HW4.out HW5.out HW6.out HW7.out HW8.out _ HM.out _).mono ?_; rintro e w2 ⟨rfl, hb2⟩
        have HB2 := Aside0.mk (below_then HB1.out HB1.out.size hb2 : Below w.heap.size w w2); clear hb2
        go_wp2_with fail
        go_roundg (gk - 1)
        case measure => omega
        case rel => exact ⟨i + 1, by omega, by omega, by go_num, HT, ⟨by repeat (first | exact HB2.out | apply pw_below_drewN | apply below_alloc)⟩⟩
       | false =>
        have HT := Aside0.mk (HS.out.2 hm)
        have HM := Aside0.mk hm; clear hm
        go_wp2_with fail
        refine (kind_4 _ _ _ _ _ _ _ _ _).mono ?_; rintro e w1 ⟨rfl, hb1⟩
        have HB1 := Aside0.mk (below_then (by repeat (first | exact HB.out | apply pw_below_drewN | apply below_alloc)) (by have := HB.out.size; simp; omega) hb1 : Below w.heap.size w w1); clear hb1
        go_wp2_with fail
        refine (mayC_4 _ _ _ _ _ _ _ _ HW1.out HW3.out HW4.out HW5.out HW6.out HW7.out HW8.out _ HM.out _).mono ?_; rintro e w2 ⟨rfl, hb2⟩
        have HB2 := Aside0.mk (below_then HB1.out HB1.out.size hb2 : Below w.heap.size w w2); clear hb2
        go_wp2_with fail
        go_ret2
        exact ⟨ret_pair HT.out, by repeat (first | exact HB2.out | apply pw_below_drewN | apply below_alloc)⟩
      ·
       have hm : M.may ⟨a0, a1, a2, a3, a4, a5, a6, a7, a8⟩ = false := by unfold M.may; simp only; rw [if_neg k1, if_neg k2, if_neg k3, if_neg k4]
       have HT := Aside0.mk (HS.out.2 hm); clear hm
       go_wp2_with fail
       refine (kind_0 _ _ _ _ _ _ _ _ _ _ k1 k2 k3 k4).mono ?_; rintro e w1 ⟨rfl, hb1⟩
       have HB1 := Aside0.mk (below_then (by repeat (first | exact HB.out | apply pw_below_drewN | apply below_alloc)) (by have := HB.out.size; simp; omega) hb1 : Below w.heap.size w w1); clear hb1
       go_wp2_with fail
       go_ret2
       exact ⟨ret_pair HT.out, by repeat (first | exact HB1.out | apply pw_below_drewN | apply below_alloc)⟩
  ·
   have e : i = l.length := by omega
   have HE := Aside0.mk (chkAt_end (by simpa using e) HA.out)
   have hge : decide ((i : Int) < (l.length : Int)) = false := by simp; omega
   have hge2 : decide (i < l.length) = false := by simp; omega
   clear e
   go_wp2_with fail
   go_ret2
   exact ⟨ret_pair HE.out, by repeat (first | exact HB.out | apply pw_below_drewN | apply below_alloc)⟩
theorem chk_long {we : Int} {l : List M.Rul} (h : 64 < l.length) : (2, 0) = M.chk we l := by unfold M.chk; rw [if_pos h]
theorem chk_end {we : Int} {l : List M.Rul} (h : l.length ≤ 64) (hw : ¬ (0 ≤ we ∧ we ≤ 126)) : (60, -1) = M.chk we l := by unfold M.chk; rw [if_neg (by omega), if_neg hw]
set_option maxHeartbeats 1000000 in
set_option maxRecDepth 100000 in
theorem check_calls (we : Int) (A : Option Addr) (c : Nat) (l : List S63) (w : World) (hr : Kd.C k63 w A l.length l) (hw : ∀ x ∈ l, wfS x) :
  Calls Try.prog 44 #[.agg #[.int .i64 we, .slice A l.length c]] w fun e w' => e = .returned (.tuple #[.int .i64 (M.chk we (l.map ru)).1, .int .i64 (M.chk we (l.map ru)).2]) ∧ Below w.heap.size w w' := by
 by_cases h64 : 64 < l.length
 ·
  have hlen : decide (64 < l.length) = true := by simpa using h64
  have hlen2 : decide (64 < (l.length : Int)) = true := by simp; omega
  have HT := Aside0.mk (chk_long (we := we) (l := l.map ru) (by simpa using h64))
  clear hr hw h64
  go_enter Try.func44, Try.ntmps44
  go_wp2
  go_ret2
  exact ⟨ret_pair HT.out, by repeat (first | exact Below.refl _ _ | apply pw_below_drewN | apply below_alloc)⟩
 ·
  by_cases hwe : 0 ≤ we ∧ we ≤ 126
  ·
   exact check_loop we A c l w hr hw (by omega) hwe.1 hwe.2
  ·
   have hlen : decide (64 < l.length) = false := by simpa using h64
   have hlen2 : decide (64 < (l.length : Int)) = false := by simp; omega
   have HT := Aside0.mk (chk_end (we := we) (l := l.map ru) (by simpa using h64) hwe)
   have hwt : decide (0 ≤ we ∧ we ≤ 126) = false := by simpa using hwe
   clear hr hw h64 hwe
   go_enter Try.func44, Try.ntmps44
   go_wp2_with (go_at_call 83; refine (within_calls _ _ _ _ hwt _).mono ?_; rintro e w' ⟨rfl, ⟨n0, rfl⟩⟩)
   go_ret2
   exact ⟨ret_pair HT.out, by repeat (first | exact Below.refl _ _ | apply pw_below_drewN | apply below_alloc)⟩
end Go.Proofs.Ytoncignjcgjhhaa.H
namespace Go.Proofs.Ytoncignjcgjhhaa.Q
instance i64Dec (x : Int) : Decidable (L.i64 x) := inferInstanceAs (Decidable (-9223372036854775808 ≤ x ∧ x ≤ 9223372036854775807))
instance wfSDec (x : S63) : Decidable (H.wfS x) := inferInstanceAs (Decidable (L.i64 x.f0 ∧ L.i64 x.f1 ∧ L.i64 x.f2 ∧ L.i64 x.f3 ∧ L.i64 x.f4 ∧ L.i64 x.f5 ∧ L.i64 x.f6 ∧ L.i64 x.f7 ∧ L.i64 x.f8))
def wfL (l : List S63) : Prop := l.all (fun x => decide (H.wfS x)) = true
instance wfLDec (l : List S63) : Decidable (wfL l) := inferInstanceAs (Decidable (l.all (fun x => decide (H.wfS x)) = true))
theorem wfL_mem {l : List S63} (h : wfL l) : ∀ x ∈ l, H.wfS x := fun x hx => of_decide_eq_true (List.all_eq_true.1 h x hx)
theorem wfL_of {l : List S63} (h : ∀ x ∈ l, H.wfS x) : wfL l := List.all_eq_true.2 fun x hx => decide_eq_true (h x hx)
end Go.Proofs.Ytoncignjcgjhhaa.Q
namespace Go.Proofs.Ytoncignjcgjhhaa.O
open Go.ChangeShapes Go.WideShapes Go.ChangeAt Go.RowKit Go.Deep Go.Joins
open Go.Proofs.YtoncignjcgjhhaaW.PrintWords
open Go.Proofs.Ytoncignjcgjhhaa.Q (S63 k63 k63_mk wfL wfL_of)
theorem i64_of {a : Int} (h : (Lit.int .i64 a).wf = true) : L.i64 a := by
 have hmin : IntKind.i64.min = -9223372036854775808 := rfl
 have hmax : IntKind.i64.max = 9223372036854775807 := rfl
 simp only [Lit.wf, Bool.and_eq_true, decide_eq_true_eq] at h
 unfold L.i64; omega
variable {K : Type} {enc : TypeId × Value → K} {W : World}
set_option maxRecDepth 100000 in
theorem rule_cells {n : Nat} {cs : List Value} {x : DataW K × List MemPlace} (h : DataW.trod enc Try.prog W 0 (fun _ => true) true n 63 cs = some x) (hl : cs.length = 9) :
  ∃ e : S63, H.wfS e ∧ cs = [.int .i64 e.f0, .int .i64 e.f1, .int .i64 e.f2, .int .i64 e.f3, .int .i64 e.f4, .int .i64 e.f5, .int .i64 e.f6, .int .i64 e.f7, .int .i64 e.f8] := by
 obtain ⟨ys, n', _, _, _, hyl, hf⟩ := DataW.trod_struct Try.underlying63 h
 have key : ∀ (j : Nat) (f : Field), j < 9 → (match Try.prog.underlying 63 with | some (.struct fs) => fs[j]? | _ => none) = some f → f.type = 3 → ∃ a, cs[j]? = some (.int .i64 a) ∧ (Lit.int .i64 a).wf = true := by
  intro j f hj hfj ht
  rw [Try.underlying63] at hfj
  obtain ⟨ho, hk⟩ := hone_of (P := Try.prog) (by kernel_rfl) j f hfj
  have h1 := hf j f hfj
  rw [ho, hk, ht] at h1
  have e1 : (cs.drop j).take 1 = [cs[j]'(by omega)] := by rw [List.drop_eq_getElem_cons (by omega)]; rfl
  rw [e1] at h1
  have hy : ys[j]? = some (ys[j]'(by rw [hyl]; exact (Array.getElem?_eq_some_iff.1 hfj).1)) := List.getElem?_eq_getElem _
  obtain ⟨a, e0, _, wa⟩ := DataW.trod_int Try.underlying3 (h1.trans hy)
  refine ⟨a, ?_, wa⟩
  rw [List.getElem?_eq_getElem (by omega)]
  exact congrArg some (List.cons.inj e0).1
 obtain ⟨a0, e0, w0⟩ := key 0 _ (by omega) (by rw [Try.underlying63]; rfl) rfl
 obtain ⟨a1, e1, w1⟩ := key 1 _ (by omega) (by rw [Try.underlying63]; rfl) rfl
 obtain ⟨a2, e2, w2⟩ := key 2 _ (by omega) (by rw [Try.underlying63]; rfl) rfl
 obtain ⟨a3, e3, w3⟩ := key 3 _ (by omega) (by rw [Try.underlying63]; rfl) rfl
 obtain ⟨a4, e4, w4⟩ := key 4 _ (by omega) (by rw [Try.underlying63]; rfl) rfl
 obtain ⟨a5, e5, w5⟩ := key 5 _ (by omega) (by rw [Try.underlying63]; rfl) rfl
 obtain ⟨a6, e6, w6⟩ := key 6 _ (by omega) (by rw [Try.underlying63]; rfl) rfl
 obtain ⟨a7, e7, w7⟩ := key 7 _ (by omega) (by rw [Try.underlying63]; rfl) rfl
 obtain ⟨a8, e8, w8⟩ := key 8 _ (by omega) (by rw [Try.underlying63]; rfl) rfl
 refine ⟨⟨a0, a1, a2, a3, a4, a5, a6, a7, a8⟩, ⟨i64_of w0, i64_of w1, i64_of w2, i64_of w3, i64_of w4, i64_of w5, i64_of w6, i64_of w7, i64_of w8⟩, ?_⟩
 match cs, hl with
 | [c0, c1, c2, c3, c4, c5, c6, c7, c8], _ =>
  simp only [List.getElem?_cons_zero, List.getElem?_cons_succ, Option.some.injEq] at e0 e1 e2 e3 e4 e5 e6 e7 e8
  subst e0 e1 e2 e3 e4 e5 e6 e7 e8
  rfl
theorem cells63 : Try.prog.cellsOf 63 = 9 := by kernel_rfl
theorem cells24 : Try.prog.cellsOf 24 = 2 := by kernel_rfl
set_option maxRecDepth 100000 in
theorem rules_open {n : Nat} {v : Value} {x : DataW K × List MemPlace} (h : DataW.trod enc Try.prog W 0 (fun _ => true) true n 22 [v] = some x) :
  ∃ (A : Option Addr) (c : Nat) (l : List S63), v = .slice A l.length c ∧ l.length ≤ c ∧ Kd.C k63 W A l.length l ∧ wfL l := by
 rcases open_slice Try.underlying22 h with ⟨hcs, _⟩ | ⟨a, len, cap, m, n', D, Pl, hcs, _, hl, hm, hmm, _, hel⟩
 ·
  injection hcs with hcs
  exact ⟨none, 0, [], hcs, Nat.le_refl _, ⟨rfl, by simp, fun h => absurd h (by simp)⟩, wfL_of (by simp)⟩
 ·
  injection hcs with hcs
  rw [if_pos rfl] at hmm
  subst hmm
  have key : ∀ i, i < len → ∃ e : S63, H.wfS e ∧ ∀ j u, [Value.int .i64 e.f0, .int .i64 e.f1, .int .i64 e.f2, .int .i64 e.f3, .int .i64 e.f4, .int .i64 e.f5, .int .i64 e.f6, .int .i64 e.f7, .int .i64 e.f8][j]? = some u → W.cell? (a.add (i * 9 + j)) = some u := by
   intro i hi
   obtain ⟨cs', hc, ht⟩ := hel i (by omega)
   rw [cells63] at hc
   obtain ⟨_, hcl, hat⟩ := World.cells?_some hc
   obtain ⟨e, hw, he⟩ := rule_cells ht hcl
   refine ⟨e, hw, fun j u hj => ?_⟩
   rw [← he] at hj
   have hjl : j < 9 := by have := (List.getElem?_eq_some_iff.1 hj).1; omega
   have hcell := hat j hjl
   rw [← Go.Deep.add_add, hcell, hj]
  let g : Nat → S63 := fun i => if hi : i < len then Classical.choose (key i hi) else Q.z63
  have hg : ∀ i (hi : i < len), g i = Classical.choose (key i hi) := fun i hi => dif_pos hi
  have hlen : ((List.range len).map g).length = len := by simp
  have hmax : maxLen = 9223372036854775807 := rfl
  refine ⟨some a, m, (List.range len).map g, by rw [hlen]; exact hcs, by rw [hlen]; exact hl, ⟨rfl, by rw [hlen]; omega, fun _ => ⟨a, rfl, fun j p hp => ?_⟩⟩, wfL_of fun x hx => ?_⟩
  ·
   have hj : j < len := by have := (List.getElem?_eq_some_iff.1 hp).1; rw [hlen] at this; exact this
   have hp' : g j = p := by
    have := hp
    rw [List.getElem?_map, List.getElem?_range hj] at this
    exact Option.some.inj this
   have hs := Classical.choose_spec (key j hj)
   rw [← hg j hj, hp'] at hs
   exact ⟨_, rfl, k63_mk W p, fun i u hu => hs.2 i u hu⟩
  ·
   obtain ⟨i, hi, rfl⟩ := List.mem_map.1 hx
   have hi := List.mem_range.1 hi
   rw [hg i hi]
   exact (Classical.choose_spec (key i hi)).1
end Go.Proofs.Ytoncignjcgjhhaa.O
namespace Go.Proofs.Ytoncignjcgjhhaa.O
open Go.ChangeShapes Go.WideShapes Go.ChangeAt Go.RowKit Go.Deep Go.Joins
open Go.Proofs.YtoncignjcgjhhaaW.PrintWords
open Go.Proofs.Ytoncignjcgjhhaa.Q (S63 k63 k63_mk wfL wfL_of)
variable {K : Type} {enc : TypeId × Value → K} {W : World}
theorem cells66 : Try.prog.cellsOf 66 = 10 := by kernel_rfl
theorem cells3 : Try.prog.cellsOf 3 = 1 := by kernel_rfl
theorem cells22 : Try.prog.cellsOf 22 = 1 := by kernel_rfl
set_option maxRecDepth 100000 in
theorem spec_open {r : Reach} {b0 : Nat} {v : Value} {d : DataW K} {p : List MemPlace} (hv : Value.okWide Try.prog W r b0 66 v) (h : DataW.Trod enc Try.prog W 0 (fun _ => true) true 66 v d p) :
  ∃ (s0 s1 s2 s3 s4 s5 s6 s7 we : Int) (A : Option Addr) (c : Nat) (l : List S63), v = .agg #[.int .i64 s0, .int .i64 s1, .int .i64 s2, .int .i64 s3, .int .i64 s4, .int .i64 s5, .int .i64 s6, .int .i64 s7, .int .i64 we, .slice A l.length c] ∧ l.length ≤ c ∧ Kd.C k63 W A l.length l ∧ wfL l := by
 obtain ⟨cs, rfl, hsz⟩ := okWide_struct Try.underlying66 hv
 rw [cells66] at hsz
 obtain ⟨fuel, hf⟩ := h
 obtain ⟨ls⟩ := cs
 match ls, hsz with
 | [c0, c1, c2, c3, c4, c5, c6, c7, c8, c9], _ =>
  have hf' : DataW.trod enc Try.prog W 0 (fun _ => true) true fuel 66 [c0, c1, c2, c3, c4, c5, c6, c7, c8, c9] = some (d, p) := hf
  obtain ⟨ys, n', _, _, _, hyl, hfl⟩ := DataW.trod_struct Try.underlying66 hf'
  have hy : ∀ j, j < 9 → ∃ y, ys[j]? = some y := fun j hj => ⟨_, List.getElem?_eq_getElem (by rw [hyl]; exact hj)⟩
  have key : ∀ (j : Nat) (c : Value), j < 9 → DataW.trod enc Try.prog W 0 (fun _ => true) true n' 3 [c] = ys[j]? → ∃ a, c = .int .i64 a := by
   intro j c hj h1
   obtain ⟨y, e⟩ := hy j hj
   obtain ⟨a, e0, _, _⟩ := DataW.trod_int Try.underlying3 (h1.trans e)
   exact ⟨a, (List.cons.inj e0).1⟩
  have h0 : DataW.trod enc Try.prog W 0 (fun _ => true) true n' 3 (([c0, c1, c2, c3, c4, c5, c6, c7, c8, c9].drop 0).take (Try.prog.cellsOf 3)) = ys[0]? := hfl 0 _ rfl
  rw [cells3] at h0
  have h1 : DataW.trod enc Try.prog W 0 (fun _ => true) true n' 3 (([c0, c1, c2, c3, c4, c5, c6, c7, c8, c9].drop 1).take (Try.prog.cellsOf 3)) = ys[1]? := hfl 1 _ rfl
  rw [cells3] at h1
  have h2 : DataW.trod enc Try.prog W 0 (fun _ => true) true n' 3 (([c0, c1, c2, c3, c4, c5, c6, c7, c8, c9].drop 2).take (Try.prog.cellsOf 3)) = ys[2]? := hfl 2 _ rfl
  rw [cells3] at h2
  have h3 : DataW.trod enc Try.prog W 0 (fun _ => true) true n' 3 (([c0, c1, c2, c3, c4, c5, c6, c7, c8, c9].drop 3).take (Try.prog.cellsOf 3)) = ys[3]? := hfl 3 _ rfl
  rw [cells3] at h3
  have h4 : DataW.trod enc Try.prog W 0 (fun _ => true) true n' 3 (([c0, c1, c2, c3, c4, c5, c6, c7, c8, c9].drop 4).take (Try.prog.cellsOf 3)) = ys[4]? := hfl 4 _ rfl
  rw [cells3] at h4
  have h5 : DataW.trod enc Try.prog W 0 (fun _ => true) true n' 3 (([c0, c1, c2, c3, c4, c5, c6, c7, c8, c9].drop 5).take (Try.prog.cellsOf 3)) = ys[5]? := hfl 5 _ rfl
  rw [cells3] at h5
  have h6 : DataW.trod enc Try.prog W 0 (fun _ => true) true n' 3 (([c0, c1, c2, c3, c4, c5, c6, c7, c8, c9].drop 6).take (Try.prog.cellsOf 3)) = ys[6]? := hfl 6 _ rfl
  rw [cells3] at h6
  have h7 : DataW.trod enc Try.prog W 0 (fun _ => true) true n' 3 (([c0, c1, c2, c3, c4, c5, c6, c7, c8, c9].drop 7).take (Try.prog.cellsOf 3)) = ys[7]? := hfl 7 _ rfl
  rw [cells3] at h7
  have h8 : DataW.trod enc Try.prog W 0 (fun _ => true) true n' 24 (([c0, c1, c2, c3, c4, c5, c6, c7, c8, c9].drop 8).take (Try.prog.cellsOf 24)) = ys[8]? := hfl 8 _ rfl
  rw [cells24] at h8
  obtain ⟨s0, rfl⟩ := key 0 c0 (by omega) h0
  obtain ⟨s1, rfl⟩ := key 1 c1 (by omega) h1
  obtain ⟨s2, rfl⟩ := key 2 c2 (by omega) h2
  obtain ⟨s3, rfl⟩ := key 3 c3 (by omega) h3
  obtain ⟨s4, rfl⟩ := key 4 c4 (by omega) h4
  obtain ⟨s5, rfl⟩ := key 5 c5 (by omega) h5
  obtain ⟨s6, rfl⟩ := key 6 c6 (by omega) h6
  obtain ⟨s7, rfl⟩ := key 7 c7 (by omega) h7
  obtain ⟨y8, e8⟩ := hy 8 (by omega)
  have h8' : DataW.trod enc Try.prog W 0 (fun _ => true) true n' 24 [c8, c9] = some y8 := h8.trans e8
  obtain ⟨zs, n2, _, _, _, hzl, hz⟩ := DataW.trod_struct Try.underlying24 h8'
  have g0 : DataW.trod enc Try.prog W 0 (fun _ => true) true n2 3 (([c8, c9].drop 0).take (Try.prog.cellsOf 3)) = zs[0]? := hz 0 _ rfl
  have g1 : DataW.trod enc Try.prog W 0 (fun _ => true) true n2 22 (([c8, c9].drop 1).take (Try.prog.cellsOf 22)) = zs[1]? := hz 1 _ rfl
  rw [cells3] at g0
  rw [cells22] at g1
  have hz2 : ∀ j, j < 2 → ∃ y, zs[j]? = some y := fun j hj => ⟨_, List.getElem?_eq_getElem (by rw [hzl]; exact hj)⟩
  obtain ⟨z0, f0⟩ := hz2 0 (by omega)
  obtain ⟨z1, f1⟩ := hz2 1 (by omega)
  obtain ⟨we, e0, _, _⟩ := DataW.trod_int Try.underlying3 (g0.trans f0)
  obtain rfl := (List.cons.inj e0).1
  obtain ⟨A, c, l, e1, hc, hk, hw⟩ := rules_open (v := c9) (g1.trans f1)
  subst e1
  exact ⟨s0, s1, s2, s3, s4, s5, s6, s7, we, A, c, l, rfl, hc, hk, hw⟩
end Go.Proofs.Ytoncignjcgjhhaa.O
namespace Go.Proofs.Ytoncignjcgjhhaa.Q
open Go.RowKit Go.Proofs.YtoncignjcgjhhaaW.PrintWords Go.Proofs.YtoncignjcgjhhaaW.PrintLast Go.Proofs.YtoncignjcgjhhaaW.PrintMore
attribute [local go_sem] max2_int min2_int max_two min_two max_three min_three max_four min_four   -- for this text's walks alone
def date_Months.j0 : Nat → Int → Int → Bool → Bool → Option (Int × Int)
  | 0, _, _, _, _ => none
  | k + 1, x0, x1, x2, x24 => if x24 = true then (some (0, 51)) else ((date_civil.f k x0).bind fun bt721 => ((date_length.f bt721.1 bt721.2.1).bind fun t724 => ((date_month.f (wrap64 (Int.tdiv (wrap64 ((wrap64 ((wrap64 ((wrap64 (12 * bt721.1)) + bt721.2.1)) - 1)) + x1)) 12)) (wrap64 ((Int.tmod (wrap64 ((wrap64 ((wrap64 ((wrap64 (12 * bt721.1)) + bt721.2.1)) - 1)) + x1)) 12) + 1))).bind fun t725 => (if t725 = true then ((date_length.f (wrap64 (Int.tdiv (wrap64 ((wrap64 ((wrap64 ((wrap64 (12 * bt721.1)) + bt721.2.1)) - 1)) + x1)) 12)) (wrap64 ((Int.tmod (wrap64 ((wrap64 ((wrap64 ((wrap64 (12 * bt721.1)) + bt721.2.1)) - 1)) + x1)) 12) + 1))).bind fun t726 => (if bt721.2.2 > t726 then ((date_day.f k (wrap64 (Int.tdiv (wrap64 ((wrap64 ((wrap64 ((wrap64 (12 * bt721.1)) + bt721.2.1)) - 1)) + x1)) 12)) (wrap64 ((Int.tmod (wrap64 ((wrap64 ((wrap64 ((wrap64 (12 * bt721.1)) + bt721.2.1)) - 1)) + x1)) 12) + 1)) t726).bind fun t727 => (some (t727, 0))) else (if x2 = true then (if bt721.2.2 = t724 then ((date_day.f k (wrap64 (Int.tdiv (wrap64 ((wrap64 ((wrap64 ((wrap64 (12 * bt721.1)) + bt721.2.1)) - 1)) + x1)) 12)) (wrap64 ((Int.tmod (wrap64 ((wrap64 ((wrap64 ((wrap64 (12 * bt721.1)) + bt721.2.1)) - 1)) + x1)) 12) + 1)) t726).bind fun t728 => (some (t728, 0))) else ((date_day.f k (wrap64 (Int.tdiv (wrap64 ((wrap64 ((wrap64 ((wrap64 (12 * bt721.1)) + bt721.2.1)) - 1)) + x1)) 12)) (wrap64 ((Int.tmod (wrap64 ((wrap64 ((wrap64 ((wrap64 (12 * bt721.1)) + bt721.2.1)) - 1)) + x1)) 12) + 1)) bt721.2.2).bind fun t729 => (some (t729, 0)))) else ((date_day.f k (wrap64 (Int.tdiv (wrap64 ((wrap64 ((wrap64 ((wrap64 (12 * bt721.1)) + bt721.2.1)) - 1)) + x1)) 12)) (wrap64 ((Int.tmod (wrap64 ((wrap64 ((wrap64 ((wrap64 (12 * bt721.1)) + bt721.2.1)) - 1)) + x1)) 12) + 1)) bt721.2.2).bind fun t730 => (some (t730, 0)))))) else (some (0, 51))))))
def date_Months.f (k : Nat) (a0 a1 : Int) (a2 : Bool) : Option (Int × Int) := (date_is.f a0).bind fun t720 => (if t720 = true then (if a1 < (-4000) then (date_Months.j0 k a0 a1 a2 true) else (date_Months.j0 k a0 a1 a2 (decide (a1 > 4000)))) else (date_Months.j0 k a0 a1 a2 true))
theorem date_Months.mono_l : ∀ k, (∀ y0 y1 y2 y3, LeO (date_Months.j0 k y0 y1 y2 y3) (date_Months.j0 (k + 1) y0 y1 y2 y3))
 | 0 => fun _ _ _ _ r h => by simp [date_Months.j0] at h
 | k + 1 => by
  have ih0 := date_Months.mono_l k
  ·
   intro y0 y1 y2 y3
   unfold date_Months.j0
   have m0 := @date_civil.mono
   have m1 := @date_day.mono
   exact mL
theorem date_Months.mono : ∀ a0 a1 a2 k, LeO (date_Months.f k a0 a1 a2) (date_Months.f (k + 1) a0 a1 a2) := by
 intro a0 a1 a2 k
 have ih0 := date_Months.mono_l k
 unfold date_Months.f
 have m0 := @date_civil.mono
 have m1 := @date_day.mono
 exact mL
set_option maxHeartbeats 8000000 in
set_option maxRecDepth 100000 in
theorem date_Months.calls (k : Nat) (a0 a1 : Int) (a2 : Bool) (r1 r2 : Int) (w : World) (h : date_Months.f k a0 a1 a2 = some (r1, r2)) :
  Calls Try.prog 112 #[.int .i64 a0, .int .i64 a1, .bool a2] w fun e w' => e = .returned (.tuple #[.int .i64 r1, .int .i64 r2]) ∧ Drawn0 w w' := by
 have H : ((date_is.f a0).bind fun t720 => (if t720 = true then (if a1 < (-4000) then (date_Months.j0 k a0 a1 a2 true) else (date_Months.j0 k a0 a1 a2 (decide (a1 > 4000)))) else (date_Months.j0 k a0 a1 a2 true))) = some (r1, r2) := h
 clear h;have HC4 := Aside0.mk H;clear H
 go_enter Try.func112, Try.ntmps112
 go_upto_region 1 with (fail)
 go_cut [24] (fun v24 wc => ∃ (kq : Nat) (x24_3 : Bool), v24 = .bool x24_3 ∧ Aside0 (date_Months.j0 kq a0 a1 a2 x24_3 = some (r1, r2)) ∧ Aside0 (kq ≤ k) ∧ Drawn0 w wc)
 case first =>
  have H := HC4.out;clear HC4;replace H := Option.bind_eq_some_iff.mp H
  obtain ⟨t720, A50, H⟩ := H
  replace H : (if t720 = true then (if a1 < (-4000) then (date_Months.j0 k a0 a1 a2 true) else (date_Months.j0 k a0 a1 a2 (decide (a1 > 4000)))) else (date_Months.j0 k a0 a1 a2 true)) = some (r1, r2) := H
  have A5 := Aside0.mk A50;clear A50
  by_cases c6 : t720 = true
  ·
   subst c6
   have H1 : (if a1 < (-4000) then (date_Months.j0 k a0 a1 a2 true) else (date_Months.j0 k a0 a1 a2 (decide (a1 > 4000)))) = some (r1, r2) := by rw [if_pos rfl] at H; exact H
   clear H;have H := H1;clear H1
   by_cases c7 : a1 < (-4000)
   ·
    rw [if_pos c7] at H
    have c7b0 : decide (a1 < (-4000)) = true := decide_eq_true c7
    clear c7
    (first | rw [c7b0] | (simp only [i64_w, i32_w]; rw [c7b0]) | skip)
    have H' := Aside0.mk H;clear H
    go_wp2_with (first | ((with_reducible refine gG 119 ?_); refine goA (some 15) Try.func119 #[.int .i64 a0] ?_; (with_reducible refine (date_is.calls a0 true _ A5.out).mono ?_); rintro e w' ⟨rfl, ⟨nd, rfl⟩⟩; refine ⟨_, rfl, ?_⟩))
    go_meet
    case rel => exact ⟨_, (true), eS, H', ⟨eN⟩, eD⟩
   ·
    rw [if_neg c7] at H
    have c7b0 : decide (a1 < (-4000)) = false := decide_eq_false c7
    clear c7
    (first | rw [c7b0] | (simp only [i64_w, i32_w]; rw [c7b0]) | skip)
    have H' := Aside0.mk H;clear H
    go_wp2_with (first | ((with_reducible refine gG 119 ?_); refine goA (some 15) Try.func119 #[.int .i64 a0] ?_; (with_reducible refine (date_is.calls a0 true _ A5.out).mono ?_); rintro e w' ⟨rfl, ⟨nd, rfl⟩⟩; refine ⟨_, rfl, ?_⟩))
    go_meet
    case rel => exact ⟨_, (decide (a1 > 4000)), eS, H', ⟨eN⟩, eD⟩
  ·
   replace c6 := Bool.eq_false_iff.mpr c6;subst c6
   have H1 : (date_Months.j0 k a0 a1 a2 true) = some (r1, r2) := by rw [if_neg (show ¬ (false = true) by decide)] at H; exact H
   clear H;have H := H1;clear H1;have H' := Aside0.mk H;clear H
   go_wp2_with (first | ((with_reducible refine gG 119 ?_); refine goA (some 15) Try.func119 #[.int .i64 a0] ?_; (with_reducible refine (date_is.calls a0 false _ A5.out).mono ?_); rintro e w' ⟨rfl, ⟨nd, rfl⟩⟩; refine ⟨_, rfl, ?_⟩))
   go_meet
   case rel => exact ⟨_, (true), eS, H', ⟨eN⟩, eD⟩
 case rest =>
  clear HC4
  obtain ⟨kq, x24_3, rfl, HA, HJ3, ⟨mc3, rfl⟩⟩ := hcut
  cases kq with
  | zero => exact absurd HA.out (by simp [date_Months.j0])
  | succ kj3 =>
   have H := HA.out;clear HA
   simp only [date_Months.j0] at H
   by_cases c8 : x24_3 = true
   ·
    subst c8
    have H1 : (some (0, 51)) = some (r1, r2) := by rw [if_pos rfl] at H; exact H
    clear H;have H := H1;clear H1
    simp only [Option.some.injEq, Prod.mk.injEq] at H
    obtain ⟨rfl, rfl⟩ := H
    go_wp2
    go_ret2
    exact ⟨eS, eD⟩
   ·
    replace c8 := Bool.eq_false_iff.mpr c8;subst c8
    have H1 : ((date_civil.f kj3 a0).bind fun bt721 => ((date_length.f bt721.1 bt721.2.1).bind fun t724 => ((date_month.f (wrap64 (Int.tdiv (wrap64 ((wrap64 ((wrap64 ((wrap64 (12 * bt721.1)) + bt721.2.1)) - 1)) + a1)) 12)) (wrap64 ((Int.tmod (wrap64 ((wrap64 ((wrap64 ((wrap64 (12 * bt721.1)) + bt721.2.1)) - 1)) + a1)) 12) + 1))).bind fun t725 => (if t725 = true then ((date_length.f (wrap64 (Int.tdiv (wrap64 ((wrap64 ((wrap64 ((wrap64 (12 * bt721.1)) + bt721.2.1)) - 1)) + a1)) 12)) (wrap64 ((Int.tmod (wrap64 ((wrap64 ((wrap64 ((wrap64 (12 * bt721.1)) + bt721.2.1)) - 1)) + a1)) 12) + 1))).bind fun t726 => (if bt721.2.2 > t726 then ((date_day.f kj3 (wrap64 (Int.tdiv (wrap64 ((wrap64 ((wrap64 ((wrap64 (12 * bt721.1)) + bt721.2.1)) - 1)) + a1)) 12)) (wrap64 ((Int.tmod (wrap64 ((wrap64 ((wrap64 ((wrap64 (12 * bt721.1)) + bt721.2.1)) - 1)) + a1)) 12) + 1)) t726).bind fun t727 => (some (t727, 0))) else (if a2 = true then (if bt721.2.2 = t724 then ((date_day.f kj3 (wrap64 (Int.tdiv (wrap64 ((wrap64 ((wrap64 ((wrap64 (12 * bt721.1)) + bt721.2.1)) - 1)) + a1)) 12)) (wrap64 ((Int.tmod (wrap64 ((wrap64 ((wrap64 ((wrap64 (12 * bt721.1)) + bt721.2.1)) - 1)) + a1)) 12) + 1)) t726).bind fun t728 => (some (t728, 0))) else ((date_day.f kj3 (wrap64 (Int.tdiv (wrap64 ((wrap64 ((wrap64 ((wrap64 (12 * bt721.1)) + bt721.2.1)) - 1)) + a1)) 12)) (wrap64 ((Int.tmod (wrap64 ((wrap64 ((wrap64 ((wrap64 (12 * bt721.1)) + bt721.2.1)) - 1)) + a1)) 12) + 1)) bt721.2.2).bind fun t729 => (some (t729, 0)))) else ((date_day.f kj3 (wrap64 (Int.tdiv (wrap64 ((wrap64 ((wrap64 ((wrap64 (12 * bt721.1)) + bt721.2.1)) - 1)) + a1)) 12)) (wrap64 ((Int.tmod (wrap64 ((wrap64 ((wrap64 ((wrap64 (12 * bt721.1)) + bt721.2.1)) - 1)) + a1)) 12) + 1)) bt721.2.2).bind fun t730 => (some (t730, 0)))))) else (some (0, 51)))))) = some (r1, r2) := by rw [if_neg (show ¬ (false = true) by decide)] at H; exact H
    clear H;have H := H1;clear H1;replace H := Option.bind_eq_some_iff.mp H
    obtain ⟨⟨t721, t722, t723⟩, A90, H⟩ := H
    replace H : ((date_length.f t721 t722).bind fun t724 => ((date_month.f (wrap64 (Int.tdiv (wrap64 ((wrap64 ((wrap64 ((wrap64 (12 * t721)) + t722)) - 1)) + a1)) 12)) (wrap64 ((Int.tmod (wrap64 ((wrap64 ((wrap64 ((wrap64 (12 * t721)) + t722)) - 1)) + a1)) 12) + 1))).bind fun t725 => (if t725 = true then ((date_length.f (wrap64 (Int.tdiv (wrap64 ((wrap64 ((wrap64 ((wrap64 (12 * t721)) + t722)) - 1)) + a1)) 12)) (wrap64 ((Int.tmod (wrap64 ((wrap64 ((wrap64 ((wrap64 (12 * t721)) + t722)) - 1)) + a1)) 12) + 1))).bind fun t726 => (if t723 > t726 then ((date_day.f kj3 (wrap64 (Int.tdiv (wrap64 ((wrap64 ((wrap64 ((wrap64 (12 * t721)) + t722)) - 1)) + a1)) 12)) (wrap64 ((Int.tmod (wrap64 ((wrap64 ((wrap64 ((wrap64 (12 * t721)) + t722)) - 1)) + a1)) 12) + 1)) t726).bind fun t727 => (some (t727, 0))) else (if a2 = true then (if t723 = t724 then ((date_day.f kj3 (wrap64 (Int.tdiv (wrap64 ((wrap64 ((wrap64 ((wrap64 (12 * t721)) + t722)) - 1)) + a1)) 12)) (wrap64 ((Int.tmod (wrap64 ((wrap64 ((wrap64 ((wrap64 (12 * t721)) + t722)) - 1)) + a1)) 12) + 1)) t726).bind fun t728 => (some (t728, 0))) else ((date_day.f kj3 (wrap64 (Int.tdiv (wrap64 ((wrap64 ((wrap64 ((wrap64 (12 * t721)) + t722)) - 1)) + a1)) 12)) (wrap64 ((Int.tmod (wrap64 ((wrap64 ((wrap64 ((wrap64 (12 * t721)) + t722)) - 1)) + a1)) 12) + 1)) t723).bind fun t729 => (some (t729, 0)))) else ((date_day.f kj3 (wrap64 (Int.tdiv (wrap64 ((wrap64 ((wrap64 ((wrap64 (12 * t721)) + t722)) - 1)) + a1)) 12)) (wrap64 ((Int.tmod (wrap64 ((wrap64 ((wrap64 ((wrap64 (12 * t721)) + t722)) - 1)) + a1)) 12) + 1)) t723).bind fun t730 => (some (t730, 0)))))) else (some (0, 51))))) = some (r1, r2) := H
    have A9 := Aside0.mk A90;clear A90;replace H := Option.bind_eq_some_iff.mp H
    obtain ⟨t724, A100, H⟩ := H
    replace H : ((date_month.f (wrap64 (Int.tdiv (wrap64 ((wrap64 ((wrap64 ((wrap64 (12 * t721)) + t722)) - 1)) + a1)) 12)) (wrap64 ((Int.tmod (wrap64 ((wrap64 ((wrap64 ((wrap64 (12 * t721)) + t722)) - 1)) + a1)) 12) + 1))).bind fun t725 => (if t725 = true then ((date_length.f (wrap64 (Int.tdiv (wrap64 ((wrap64 ((wrap64 ((wrap64 (12 * t721)) + t722)) - 1)) + a1)) 12)) (wrap64 ((Int.tmod (wrap64 ((wrap64 ((wrap64 ((wrap64 (12 * t721)) + t722)) - 1)) + a1)) 12) + 1))).bind fun t726 => (if t723 > t726 then ((date_day.f kj3 (wrap64 (Int.tdiv (wrap64 ((wrap64 ((wrap64 ((wrap64 (12 * t721)) + t722)) - 1)) + a1)) 12)) (wrap64 ((Int.tmod (wrap64 ((wrap64 ((wrap64 ((wrap64 (12 * t721)) + t722)) - 1)) + a1)) 12) + 1)) t726).bind fun t727 => (some (t727, 0))) else (if a2 = true then (if t723 = t724 then ((date_day.f kj3 (wrap64 (Int.tdiv (wrap64 ((wrap64 ((wrap64 ((wrap64 (12 * t721)) + t722)) - 1)) + a1)) 12)) (wrap64 ((Int.tmod (wrap64 ((wrap64 ((wrap64 ((wrap64 (12 * t721)) + t722)) - 1)) + a1)) 12) + 1)) t726).bind fun t728 => (some (t728, 0))) else ((date_day.f kj3 (wrap64 (Int.tdiv (wrap64 ((wrap64 ((wrap64 ((wrap64 (12 * t721)) + t722)) - 1)) + a1)) 12)) (wrap64 ((Int.tmod (wrap64 ((wrap64 ((wrap64 ((wrap64 (12 * t721)) + t722)) - 1)) + a1)) 12) + 1)) t723).bind fun t729 => (some (t729, 0)))) else ((date_day.f kj3 (wrap64 (Int.tdiv (wrap64 ((wrap64 ((wrap64 ((wrap64 (12 * t721)) + t722)) - 1)) + a1)) 12)) (wrap64 ((Int.tmod (wrap64 ((wrap64 ((wrap64 ((wrap64 (12 * t721)) + t722)) - 1)) + a1)) 12) + 1)) t723).bind fun t730 => (some (t730, 0)))))) else (some (0, 51)))) = some (r1, r2) := H
    have A10 := Aside0.mk A100;clear A100;replace H := Option.bind_eq_some_iff.mp H
    obtain ⟨t725, A110, H⟩ := H
    replace H : (if t725 = true then ((date_length.f (wrap64 (Int.tdiv (wrap64 ((wrap64 ((wrap64 ((wrap64 (12 * t721)) + t722)) - 1)) + a1)) 12)) (wrap64 ((Int.tmod (wrap64 ((wrap64 ((wrap64 ((wrap64 (12 * t721)) + t722)) - 1)) + a1)) 12) + 1))).bind fun t726 => (if t723 > t726 then ((date_day.f kj3 (wrap64 (Int.tdiv (wrap64 ((wrap64 ((wrap64 ((wrap64 (12 * t721)) + t722)) - 1)) + a1)) 12)) (wrap64 ((Int.tmod (wrap64 ((wrap64 ((wrap64 ((wrap64 (12 * t721)) + t722)) - 1)) + a1)) 12) + 1)) t726).bind fun t727 => (some (t727, 0))) else (if a2 = true then (if t723 = t724 then ((date_day.f kj3 (wrap64 (Int.tdiv (wrap64 ((wrap64 ((wrap64 ((wrap64 (12 * t721)) + t722)) - 1)) + a1)) 12)) (wrap64 ((Int.tmod (wrap64 ((wrap64 ((wrap64 ((wrap64 (12 * t721)) + t722)) - 1)) + a1)) 12) + 1)) t726).bind fun t728 => (some (t728, 0))) else ((date_day.f kj3 (wrap64 (Int.tdiv (wrap64 ((wrap64 ((wrap64 ((wrap64 (12 * t721)) + t722)) - 1)) + a1)) 12)) (wrap64 ((Int.tmod (wrap64 ((wrap64 ((wrap64 ((wrap64 (12 * t721)) + t722)) - 1)) + a1)) 12) + 1)) t723).bind fun t729 => (some (t729, 0)))) else ((date_day.f kj3 (wrap64 (Int.tdiv (wrap64 ((wrap64 ((wrap64 ((wrap64 (12 * t721)) + t722)) - 1)) + a1)) 12)) (wrap64 ((Int.tmod (wrap64 ((wrap64 ((wrap64 ((wrap64 (12 * t721)) + t722)) - 1)) + a1)) 12) + 1)) t723).bind fun t730 => (some (t730, 0)))))) else (some (0, 51))) = some (r1, r2) := H
    have A11 := Aside0.mk A110;clear A110
    by_cases c12 : t725 = true
    ·
     subst c12
     have H1 : ((date_length.f (wrap64 (Int.tdiv (wrap64 ((wrap64 ((wrap64 ((wrap64 (12 * t721)) + t722)) - 1)) + a1)) 12)) (wrap64 ((Int.tmod (wrap64 ((wrap64 ((wrap64 ((wrap64 (12 * t721)) + t722)) - 1)) + a1)) 12) + 1))).bind fun t726 => (if t723 > t726 then ((date_day.f kj3 (wrap64 (Int.tdiv (wrap64 ((wrap64 ((wrap64 ((wrap64 (12 * t721)) + t722)) - 1)) + a1)) 12)) (wrap64 ((Int.tmod (wrap64 ((wrap64 ((wrap64 ((wrap64 (12 * t721)) + t722)) - 1)) + a1)) 12) + 1)) t726).bind fun t727 => (some (t727, 0))) else (if a2 = true then (if t723 = t724 then ((date_day.f kj3 (wrap64 (Int.tdiv (wrap64 ((wrap64 ((wrap64 ((wrap64 (12 * t721)) + t722)) - 1)) + a1)) 12)) (wrap64 ((Int.tmod (wrap64 ((wrap64 ((wrap64 ((wrap64 (12 * t721)) + t722)) - 1)) + a1)) 12) + 1)) t726).bind fun t728 => (some (t728, 0))) else ((date_day.f kj3 (wrap64 (Int.tdiv (wrap64 ((wrap64 ((wrap64 ((wrap64 (12 * t721)) + t722)) - 1)) + a1)) 12)) (wrap64 ((Int.tmod (wrap64 ((wrap64 ((wrap64 ((wrap64 (12 * t721)) + t722)) - 1)) + a1)) 12) + 1)) t723).bind fun t729 => (some (t729, 0)))) else ((date_day.f kj3 (wrap64 (Int.tdiv (wrap64 ((wrap64 ((wrap64 ((wrap64 (12 * t721)) + t722)) - 1)) + a1)) 12)) (wrap64 ((Int.tmod (wrap64 ((wrap64 ((wrap64 ((wrap64 (12 * t721)) + t722)) - 1)) + a1)) 12) + 1)) t723).bind fun t730 => (some (t730, 0)))))) = some (r1, r2) := by rw [if_pos rfl] at H; exact H
     clear H;have H := H1;clear H1;replace H := Option.bind_eq_some_iff.mp H
     obtain ⟨t726, A130, H⟩ := H
     replace H : (if t723 > t726 then ((date_day.f kj3 (wrap64 (Int.tdiv (wrap64 ((wrap64 ((wrap64 ((wrap64 (12 * t721)) + t722)) - 1)) + a1)) 12)) (wrap64 ((Int.tmod (wrap64 ((wrap64 ((wrap64 ((wrap64 (12 * t721)) + t722)) - 1)) + a1)) 12) + 1)) t726).bind fun t727 => (some (t727, 0))) else (if a2 = true then (if t723 = t724 then ((date_day.f kj3 (wrap64 (Int.tdiv (wrap64 ((wrap64 ((wrap64 ((wrap64 (12 * t721)) + t722)) - 1)) + a1)) 12)) (wrap64 ((Int.tmod (wrap64 ((wrap64 ((wrap64 ((wrap64 (12 * t721)) + t722)) - 1)) + a1)) 12) + 1)) t726).bind fun t728 => (some (t728, 0))) else ((date_day.f kj3 (wrap64 (Int.tdiv (wrap64 ((wrap64 ((wrap64 ((wrap64 (12 * t721)) + t722)) - 1)) + a1)) 12)) (wrap64 ((Int.tmod (wrap64 ((wrap64 ((wrap64 ((wrap64 (12 * t721)) + t722)) - 1)) + a1)) 12) + 1)) t723).bind fun t729 => (some (t729, 0)))) else ((date_day.f kj3 (wrap64 (Int.tdiv (wrap64 ((wrap64 ((wrap64 ((wrap64 (12 * t721)) + t722)) - 1)) + a1)) 12)) (wrap64 ((Int.tmod (wrap64 ((wrap64 ((wrap64 ((wrap64 (12 * t721)) + t722)) - 1)) + a1)) 12) + 1)) t723).bind fun t730 => (some (t730, 0))))) = some (r1, r2) := H
     have A13 := Aside0.mk A130;clear A130
     by_cases c14 : t723 > t726
     ·
      rw [if_pos c14] at H
      have c14b0 : decide (t726 < t723) = true := decide_eq_true c14
      clear c14;replace H := Option.bind_eq_some_iff.mp H
      obtain ⟨t727, A150, H⟩ := H
      replace H : (some (t727, 0)) = some (r1, r2) := H
      have A15 := Aside0.mk A150;clear A150
      simp only [Option.some.injEq, Prod.mk.injEq] at H
      obtain ⟨rfl, rfl⟩ := H
      go_wp2_with (first | ((with_reducible refine gG 120 ?_); refine goA (some 27) Try.func120 #[.int .i64 a0] ?_; (with_reducible refine (date_civil.calls kj3 a0 t721 t722 t723 _ A9.out).mono ?_); rintro e w' ⟨rfl, ⟨nd, rfl⟩⟩; refine ⟨_, rfl, ?_⟩) | ((with_reducible refine gG 122 ?_); refine goA (some 34) Try.func122 #[.int .i64 t721, .int .i64 t722] ?_; (with_reducible refine (date_length.calls t721 t722 t724 _ A10.out).mono ?_); rintro e w' ⟨rfl, ⟨nd, rfl⟩⟩; refine ⟨_, rfl, ?_⟩) | ((with_reducible refine gG 121 ?_); refine goA (some 50) Try.func121 #[.int .i64 (wrap64 (Int.tdiv (wrap64 ((wrap64 ((wrap64 ((wrap64 (12 * t721)) + t722)) - 1)) + a1)) 12)), .int .i64 (wrap64 ((Int.tmod (wrap64 ((wrap64 ((wrap64 ((wrap64 (12 * t721)) + t722)) - 1)) + a1)) 12) + 1))] ?_; (with_reducible refine (date_month.calls (wrap64 (Int.tdiv (wrap64 ((wrap64 ((wrap64 ((wrap64 (12 * t721)) + t722)) - 1)) + a1)) 12)) (wrap64 ((Int.tmod (wrap64 ((wrap64 ((wrap64 ((wrap64 (12 * t721)) + t722)) - 1)) + a1)) 12) + 1)) true _ A11.out).mono ?_); rintro e w' ⟨rfl, ⟨nd, rfl⟩⟩; refine ⟨_, rfl, ?_⟩) | ((with_reducible refine gG 122 ?_); refine goA (some 54) Try.func122 #[.int .i64 (wrap64 (Int.tdiv (wrap64 ((wrap64 ((wrap64 ((wrap64 (12 * t721)) + t722)) - 1)) + a1)) 12)), .int .i64 (wrap64 ((Int.tmod (wrap64 ((wrap64 ((wrap64 ((wrap64 (12 * t721)) + t722)) - 1)) + a1)) 12) + 1))] ?_; (with_reducible refine (date_length.calls (wrap64 (Int.tdiv (wrap64 ((wrap64 ((wrap64 ((wrap64 (12 * t721)) + t722)) - 1)) + a1)) 12)) (wrap64 ((Int.tmod (wrap64 ((wrap64 ((wrap64 ((wrap64 (12 * t721)) + t722)) - 1)) + a1)) 12) + 1)) t726 _ A13.out).mono ?_); rintro e w' ⟨rfl, ⟨nd, rfl⟩⟩; refine ⟨_, rfl, ?_⟩) | ((with_reducible refine gG 123 ?_); refine goA (some 68) Try.func123 #[.int .i64 (wrap64 (Int.tdiv (wrap64 ((wrap64 ((wrap64 ((wrap64 (12 * t721)) + t722)) - 1)) + a1)) 12)), .int .i64 (wrap64 ((Int.tmod (wrap64 ((wrap64 ((wrap64 ((wrap64 (12 * t721)) + t722)) - 1)) + a1)) 12) + 1)), .int .i64 t726] ?_; (with_reducible refine (date_day.calls kj3 (wrap64 (Int.tdiv (wrap64 ((wrap64 ((wrap64 ((wrap64 (12 * t721)) + t722)) - 1)) + a1)) 12)) (wrap64 ((Int.tmod (wrap64 ((wrap64 ((wrap64 ((wrap64 (12 * t721)) + t722)) - 1)) + a1)) 12) + 1)) t726 t727 _ A15.out).mono ?_); rintro e w' ⟨rfl, ⟨nd, rfl⟩⟩; refine ⟨_, rfl, ?_⟩))
      go_ret2
      exact ⟨eS, eD⟩
     ·
      rw [if_neg c14] at H
      have c14b0 : decide (t726 < t723) = false := decide_eq_false c14
      clear c14
      by_cases c16 : a2 = true
      ·
       subst c16
       have H1 : (if t723 = t724 then ((date_day.f kj3 (wrap64 (Int.tdiv (wrap64 ((wrap64 ((wrap64 ((wrap64 (12 * t721)) + t722)) - 1)) + a1)) 12)) (wrap64 ((Int.tmod (wrap64 ((wrap64 ((wrap64 ((wrap64 (12 * t721)) + t722)) - 1)) + a1)) 12) + 1)) t726).bind fun t728 => (some (t728, 0))) else ((date_day.f kj3 (wrap64 (Int.tdiv (wrap64 ((wrap64 ((wrap64 ((wrap64 (12 * t721)) + t722)) - 1)) + a1)) 12)) (wrap64 ((Int.tmod (wrap64 ((wrap64 ((wrap64 ((wrap64 (12 * t721)) + t722)) - 1)) + a1)) 12) + 1)) t723).bind fun t729 => (some (t729, 0)))) = some (r1, r2) := by rw [if_pos rfl] at H; exact H
       clear H;have H := H1;clear H1
       by_cases c17 : t723 = t724
       ·
        rw [if_pos c17] at H
        have c17b0 : (t723 == t724) = true := beq_iff_eq.mpr c17
        have c17b1 : (t723 != t724) = false := bne_eq_false_iff_eq.mpr c17
        clear c17;replace H := Option.bind_eq_some_iff.mp H
        obtain ⟨t728, A180, H⟩ := H
        replace H : (some (t728, 0)) = some (r1, r2) := H
        have A18 := Aside0.mk A180;clear A180
        simp only [Option.some.injEq, Prod.mk.injEq] at H
        obtain ⟨rfl, rfl⟩ := H
        go_wp2_with (first | ((with_reducible refine gG 120 ?_); refine goA (some 27) Try.func120 #[.int .i64 a0] ?_; (with_reducible refine (date_civil.calls kj3 a0 t721 t722 t723 _ A9.out).mono ?_); rintro e w' ⟨rfl, ⟨nd, rfl⟩⟩; refine ⟨_, rfl, ?_⟩) | ((with_reducible refine gG 122 ?_); refine goA (some 34) Try.func122 #[.int .i64 t721, .int .i64 t722] ?_; (with_reducible refine (date_length.calls t721 t722 t724 _ A10.out).mono ?_); rintro e w' ⟨rfl, ⟨nd, rfl⟩⟩; refine ⟨_, rfl, ?_⟩) | ((with_reducible refine gG 121 ?_); refine goA (some 50) Try.func121 #[.int .i64 (wrap64 (Int.tdiv (wrap64 ((wrap64 ((wrap64 ((wrap64 (12 * t721)) + t722)) - 1)) + a1)) 12)), .int .i64 (wrap64 ((Int.tmod (wrap64 ((wrap64 ((wrap64 ((wrap64 (12 * t721)) + t722)) - 1)) + a1)) 12) + 1))] ?_; (with_reducible refine (date_month.calls (wrap64 (Int.tdiv (wrap64 ((wrap64 ((wrap64 ((wrap64 (12 * t721)) + t722)) - 1)) + a1)) 12)) (wrap64 ((Int.tmod (wrap64 ((wrap64 ((wrap64 ((wrap64 (12 * t721)) + t722)) - 1)) + a1)) 12) + 1)) true _ A11.out).mono ?_); rintro e w' ⟨rfl, ⟨nd, rfl⟩⟩; refine ⟨_, rfl, ?_⟩) | ((with_reducible refine gG 122 ?_); refine goA (some 54) Try.func122 #[.int .i64 (wrap64 (Int.tdiv (wrap64 ((wrap64 ((wrap64 ((wrap64 (12 * t721)) + t722)) - 1)) + a1)) 12)), .int .i64 (wrap64 ((Int.tmod (wrap64 ((wrap64 ((wrap64 ((wrap64 (12 * t721)) + t722)) - 1)) + a1)) 12) + 1))] ?_; (with_reducible refine (date_length.calls (wrap64 (Int.tdiv (wrap64 ((wrap64 ((wrap64 ((wrap64 (12 * t721)) + t722)) - 1)) + a1)) 12)) (wrap64 ((Int.tmod (wrap64 ((wrap64 ((wrap64 ((wrap64 (12 * t721)) + t722)) - 1)) + a1)) 12) + 1)) t726 _ A13.out).mono ?_); rintro e w' ⟨rfl, ⟨nd, rfl⟩⟩; refine ⟨_, rfl, ?_⟩) | ((with_reducible refine gG 123 ?_); refine goA (some 68) Try.func123 #[.int .i64 (wrap64 (Int.tdiv (wrap64 ((wrap64 ((wrap64 ((wrap64 (12 * t721)) + t722)) - 1)) + a1)) 12)), .int .i64 (wrap64 ((Int.tmod (wrap64 ((wrap64 ((wrap64 ((wrap64 (12 * t721)) + t722)) - 1)) + a1)) 12) + 1)), .int .i64 t726] ?_; (with_reducible refine (date_day.calls kj3 (wrap64 (Int.tdiv (wrap64 ((wrap64 ((wrap64 ((wrap64 (12 * t721)) + t722)) - 1)) + a1)) 12)) (wrap64 ((Int.tmod (wrap64 ((wrap64 ((wrap64 ((wrap64 (12 * t721)) + t722)) - 1)) + a1)) 12) + 1)) t726 t728 _ A18.out).mono ?_); rintro e w' ⟨rfl, ⟨nd, rfl⟩⟩; refine ⟨_, rfl, ?_⟩))
        go_ret2
        exact ⟨eS, eD⟩
       ·
        rw [if_neg c17] at H
        have c17b0 : (t723 == t724) = false := beq_eq_false_iff_ne.mpr c17
        have c17b1 : (t723 != t724) = true := bne_iff_ne.mpr c17
        replace H := Option.bind_eq_some_iff.mp H
        obtain ⟨t729, A190, H⟩ := H
        replace H : (some (t729, 0)) = some (r1, r2) := H
        have A19 := Aside0.mk A190;clear A190
        simp only [Option.some.injEq, Prod.mk.injEq] at H
        obtain ⟨rfl, rfl⟩ := H
        go_wp2_with (first | ((with_reducible refine gG 120 ?_); refine goA (some 27) Try.func120 #[.int .i64 a0] ?_; (with_reducible refine (date_civil.calls kj3 a0 t721 t722 t723 _ A9.out).mono ?_); rintro e w' ⟨rfl, ⟨nd, rfl⟩⟩; refine ⟨_, rfl, ?_⟩) | ((with_reducible refine gG 122 ?_); refine goA (some 34) Try.func122 #[.int .i64 t721, .int .i64 t722] ?_; (with_reducible refine (date_length.calls t721 t722 t724 _ A10.out).mono ?_); rintro e w' ⟨rfl, ⟨nd, rfl⟩⟩; refine ⟨_, rfl, ?_⟩) | ((with_reducible refine gG 121 ?_); refine goA (some 50) Try.func121 #[.int .i64 (wrap64 (Int.tdiv (wrap64 ((wrap64 ((wrap64 ((wrap64 (12 * t721)) + t722)) - 1)) + a1)) 12)), .int .i64 (wrap64 ((Int.tmod (wrap64 ((wrap64 ((wrap64 ((wrap64 (12 * t721)) + t722)) - 1)) + a1)) 12) + 1))] ?_; (with_reducible refine (date_month.calls (wrap64 (Int.tdiv (wrap64 ((wrap64 ((wrap64 ((wrap64 (12 * t721)) + t722)) - 1)) + a1)) 12)) (wrap64 ((Int.tmod (wrap64 ((wrap64 ((wrap64 ((wrap64 (12 * t721)) + t722)) - 1)) + a1)) 12) + 1)) true _ A11.out).mono ?_); rintro e w' ⟨rfl, ⟨nd, rfl⟩⟩; refine ⟨_, rfl, ?_⟩) | ((with_reducible refine gG 122 ?_); refine goA (some 54) Try.func122 #[.int .i64 (wrap64 (Int.tdiv (wrap64 ((wrap64 ((wrap64 ((wrap64 (12 * t721)) + t722)) - 1)) + a1)) 12)), .int .i64 (wrap64 ((Int.tmod (wrap64 ((wrap64 ((wrap64 ((wrap64 (12 * t721)) + t722)) - 1)) + a1)) 12) + 1))] ?_; (with_reducible refine (date_length.calls (wrap64 (Int.tdiv (wrap64 ((wrap64 ((wrap64 ((wrap64 (12 * t721)) + t722)) - 1)) + a1)) 12)) (wrap64 ((Int.tmod (wrap64 ((wrap64 ((wrap64 ((wrap64 (12 * t721)) + t722)) - 1)) + a1)) 12) + 1)) t726 _ A13.out).mono ?_); rintro e w' ⟨rfl, ⟨nd, rfl⟩⟩; refine ⟨_, rfl, ?_⟩) | ((with_reducible refine gG 123 ?_); refine goA (some 68) Try.func123 #[.int .i64 (wrap64 (Int.tdiv (wrap64 ((wrap64 ((wrap64 ((wrap64 (12 * t721)) + t722)) - 1)) + a1)) 12)), .int .i64 (wrap64 ((Int.tmod (wrap64 ((wrap64 ((wrap64 ((wrap64 (12 * t721)) + t722)) - 1)) + a1)) 12) + 1)), .int .i64 t723] ?_; (with_reducible refine (date_day.calls kj3 (wrap64 (Int.tdiv (wrap64 ((wrap64 ((wrap64 ((wrap64 (12 * t721)) + t722)) - 1)) + a1)) 12)) (wrap64 ((Int.tmod (wrap64 ((wrap64 ((wrap64 ((wrap64 (12 * t721)) + t722)) - 1)) + a1)) 12) + 1)) t723 t729 _ A19.out).mono ?_); rintro e w' ⟨rfl, ⟨nd, rfl⟩⟩; refine ⟨_, rfl, ?_⟩))
        go_ret2
        exact ⟨eS, eD⟩
      ·
       replace c16 := Bool.eq_false_iff.mpr c16;subst c16
       have H1 : ((date_day.f kj3 (wrap64 (Int.tdiv (wrap64 ((wrap64 ((wrap64 ((wrap64 (12 * t721)) + t722)) - 1)) + a1)) 12)) (wrap64 ((Int.tmod (wrap64 ((wrap64 ((wrap64 ((wrap64 (12 * t721)) + t722)) - 1)) + a1)) 12) + 1)) t723).bind fun t730 => (some (t730, 0))) = some (r1, r2) := by rw [if_neg (show ¬ (false = true) by decide)] at H; exact H
       clear H;have H := H1;clear H1;replace H := Option.bind_eq_some_iff.mp H
       obtain ⟨t730, A200, H⟩ := H
       replace H : (some (t730, 0)) = some (r1, r2) := H
       have A20 := Aside0.mk A200;clear A200
       simp only [Option.some.injEq, Prod.mk.injEq] at H
       obtain ⟨rfl, rfl⟩ := H
       go_wp2_with (first | ((with_reducible refine gG 120 ?_); refine goA (some 27) Try.func120 #[.int .i64 a0] ?_; (with_reducible refine (date_civil.calls kj3 a0 t721 t722 t723 _ A9.out).mono ?_); rintro e w' ⟨rfl, ⟨nd, rfl⟩⟩; refine ⟨_, rfl, ?_⟩) | ((with_reducible refine gG 122 ?_); refine goA (some 34) Try.func122 #[.int .i64 t721, .int .i64 t722] ?_; (with_reducible refine (date_length.calls t721 t722 t724 _ A10.out).mono ?_); rintro e w' ⟨rfl, ⟨nd, rfl⟩⟩; refine ⟨_, rfl, ?_⟩) | ((with_reducible refine gG 121 ?_); refine goA (some 50) Try.func121 #[.int .i64 (wrap64 (Int.tdiv (wrap64 ((wrap64 ((wrap64 ((wrap64 (12 * t721)) + t722)) - 1)) + a1)) 12)), .int .i64 (wrap64 ((Int.tmod (wrap64 ((wrap64 ((wrap64 ((wrap64 (12 * t721)) + t722)) - 1)) + a1)) 12) + 1))] ?_; (with_reducible refine (date_month.calls (wrap64 (Int.tdiv (wrap64 ((wrap64 ((wrap64 ((wrap64 (12 * t721)) + t722)) - 1)) + a1)) 12)) (wrap64 ((Int.tmod (wrap64 ((wrap64 ((wrap64 ((wrap64 (12 * t721)) + t722)) - 1)) + a1)) 12) + 1)) true _ A11.out).mono ?_); rintro e w' ⟨rfl, ⟨nd, rfl⟩⟩; refine ⟨_, rfl, ?_⟩) | ((with_reducible refine gG 122 ?_); refine goA (some 54) Try.func122 #[.int .i64 (wrap64 (Int.tdiv (wrap64 ((wrap64 ((wrap64 ((wrap64 (12 * t721)) + t722)) - 1)) + a1)) 12)), .int .i64 (wrap64 ((Int.tmod (wrap64 ((wrap64 ((wrap64 ((wrap64 (12 * t721)) + t722)) - 1)) + a1)) 12) + 1))] ?_; (with_reducible refine (date_length.calls (wrap64 (Int.tdiv (wrap64 ((wrap64 ((wrap64 ((wrap64 (12 * t721)) + t722)) - 1)) + a1)) 12)) (wrap64 ((Int.tmod (wrap64 ((wrap64 ((wrap64 ((wrap64 (12 * t721)) + t722)) - 1)) + a1)) 12) + 1)) t726 _ A13.out).mono ?_); rintro e w' ⟨rfl, ⟨nd, rfl⟩⟩; refine ⟨_, rfl, ?_⟩) | ((with_reducible refine gG 123 ?_); refine goA (some 68) Try.func123 #[.int .i64 (wrap64 (Int.tdiv (wrap64 ((wrap64 ((wrap64 ((wrap64 (12 * t721)) + t722)) - 1)) + a1)) 12)), .int .i64 (wrap64 ((Int.tmod (wrap64 ((wrap64 ((wrap64 ((wrap64 (12 * t721)) + t722)) - 1)) + a1)) 12) + 1)), .int .i64 t723] ?_; (with_reducible refine (date_day.calls kj3 (wrap64 (Int.tdiv (wrap64 ((wrap64 ((wrap64 ((wrap64 (12 * t721)) + t722)) - 1)) + a1)) 12)) (wrap64 ((Int.tmod (wrap64 ((wrap64 ((wrap64 ((wrap64 (12 * t721)) + t722)) - 1)) + a1)) 12) + 1)) t723 t730 _ A20.out).mono ?_); rintro e w' ⟨rfl, ⟨nd, rfl⟩⟩; refine ⟨_, rfl, ?_⟩))
       go_ret2
       exact ⟨eS, eD⟩
    ·
     replace c12 := Bool.eq_false_iff.mpr c12;subst c12
     have H1 : (some (0, 51)) = some (r1, r2) := by rw [if_neg (show ¬ (false = true) by decide)] at H; exact H
     clear H;have H := H1;clear H1
     simp only [Option.some.injEq, Prod.mk.injEq] at H
     obtain ⟨rfl, rfl⟩ := H
     go_wp2_with (first | ((with_reducible refine gG 120 ?_); refine goA (some 27) Try.func120 #[.int .i64 a0] ?_; (with_reducible refine (date_civil.calls kj3 a0 t721 t722 t723 _ A9.out).mono ?_); rintro e w' ⟨rfl, ⟨nd, rfl⟩⟩; refine ⟨_, rfl, ?_⟩) | ((with_reducible refine gG 122 ?_); refine goA (some 34) Try.func122 #[.int .i64 t721, .int .i64 t722] ?_; (with_reducible refine (date_length.calls t721 t722 t724 _ A10.out).mono ?_); rintro e w' ⟨rfl, ⟨nd, rfl⟩⟩; refine ⟨_, rfl, ?_⟩) | ((with_reducible refine gG 121 ?_); refine goA (some 50) Try.func121 #[.int .i64 (wrap64 (Int.tdiv (wrap64 ((wrap64 ((wrap64 ((wrap64 (12 * t721)) + t722)) - 1)) + a1)) 12)), .int .i64 (wrap64 ((Int.tmod (wrap64 ((wrap64 ((wrap64 ((wrap64 (12 * t721)) + t722)) - 1)) + a1)) 12) + 1))] ?_; (with_reducible refine (date_month.calls (wrap64 (Int.tdiv (wrap64 ((wrap64 ((wrap64 ((wrap64 (12 * t721)) + t722)) - 1)) + a1)) 12)) (wrap64 ((Int.tmod (wrap64 ((wrap64 ((wrap64 ((wrap64 (12 * t721)) + t722)) - 1)) + a1)) 12) + 1)) false _ A11.out).mono ?_); rintro e w' ⟨rfl, ⟨nd, rfl⟩⟩; refine ⟨_, rfl, ?_⟩))
     go_ret2
     exact ⟨eS, eD⟩
def date_Third.f (k : Nat) (a0 a1 : Int) : Option (Int × Int) := (date_month.f a0 a1).bind fun t731 => (if t731 = true then ((date_day.f k a0 a1 15).bind fun t732 => (some (wrap64 (t732 + (Int.tmod (wrap64 (9 - (Int.tmod t732 7))) 7)), 0))) else (some (0, 50)))
theorem date_Third.mono : ∀ a0 a1 k, LeO (date_Third.f k a0 a1) (date_Third.f (k + 1) a0 a1) := by
 intro a0 a1 k
 unfold date_Third.f
 have m0 := @date_day.mono
 exact mL
set_option maxHeartbeats 8000000 in
set_option maxRecDepth 100000 in
theorem date_Third.calls (k : Nat) (a0 a1 r1 r2 : Int) (w : World) (h : date_Third.f k a0 a1 = some (r1, r2)) :
  Calls Try.prog 114 #[.int .i64 a0, .int .i64 a1] w fun e w' => e = .returned (.tuple #[.int .i64 r1, .int .i64 r2]) ∧ Drawn0 w w' := by
 have H : ((date_month.f a0 a1).bind fun t731 => (if t731 = true then ((date_day.f k a0 a1 15).bind fun t732 => (some (wrap64 (t732 + (Int.tmod (wrap64 (9 - (Int.tmod t732 7))) 7)), 0))) else (some (0, 50)))) = some (r1, r2) := h
 clear h;replace H := Option.bind_eq_some_iff.mp H
 obtain ⟨t731, A30, H⟩ := H
 replace H : (if t731 = true then ((date_day.f k a0 a1 15).bind fun t732 => (some (wrap64 (t732 + (Int.tmod (wrap64 (9 - (Int.tmod t732 7))) 7)), 0))) else (some (0, 50))) = some (r1, r2) := H
 have A3 := Aside0.mk A30;clear A30
 by_cases c4 : t731 = true
 ·
  subst c4
  have H1 : ((date_day.f k a0 a1 15).bind fun t732 => (some (wrap64 (t732 + (Int.tmod (wrap64 (9 - (Int.tmod t732 7))) 7)), 0))) = some (r1, r2) := by rw [if_pos rfl] at H; exact H
  clear H;have H := H1;clear H1;replace H := Option.bind_eq_some_iff.mp H
  obtain ⟨t732, A50, H⟩ := H
  replace H : (some (wrap64 (t732 + (Int.tmod (wrap64 (9 - (Int.tmod t732 7))) 7)), 0)) = some (r1, r2) := H
  have A5 := Aside0.mk A50;clear A50
  simp only [Option.some.injEq, Prod.mk.injEq] at H
  obtain ⟨rfl, rfl⟩ := H
  go_enter Try.func114, Try.ntmps114
  go_wp2_with (first | ((with_reducible refine gG 121 ?_); refine goA (some 9) Try.func121 #[.int .i64 a0, .int .i64 a1] ?_; (with_reducible refine (date_month.calls a0 a1 true _ A3.out).mono ?_); rintro e w' ⟨rfl, ⟨nd, rfl⟩⟩; refine ⟨_, rfl, ?_⟩) | ((with_reducible refine gG 123 ?_); refine goA (some 13) Try.func123 #[.int .i64 a0, .int .i64 a1, .int .i64 15] ?_; (with_reducible refine (date_day.calls k a0 a1 15 t732 _ A5.out).mono ?_); rintro e w' ⟨rfl, ⟨nd, rfl⟩⟩; refine ⟨_, rfl, ?_⟩))
  go_ret2
  exact ⟨eS, eD⟩
 ·
  replace c4 := Bool.eq_false_iff.mpr c4;subst c4
  have H1 : (some (0, 50)) = some (r1, r2) := by rw [if_neg (show ¬ (false = true) by decide)] at H; exact H
  clear H;have H := H1;clear H1
  simp only [Option.some.injEq, Prod.mk.injEq] at H
  obtain ⟨rfl, rfl⟩ := H
  go_enter Try.func114, Try.ntmps114
  go_wp2_with (first | ((with_reducible refine gG 121 ?_); refine goA (some 9) Try.func121 #[.int .i64 a0, .int .i64 a1] ?_; (with_reducible refine (date_month.calls a0 a1 false _ A3.out).mono ?_); rintro e w' ⟨rfl, ⟨nd, rfl⟩⟩; refine ⟨_, rfl, ?_⟩))
  go_ret2
  exact ⟨eS, eD⟩
end Go.Proofs.Ytoncignjcgjhhaa.Q
namespace Go.Proofs.Ytoncignjcgjhhaa.M
def mAt (n k : Int) : Int := 12 * civY n + civM n - 1 + k
def monthsDay (n k : Int) (e : Bool) : Int :=
  if civD n > mlen (mAt n k / 12) (mAt n k % 12 + 1) then mlen (mAt n k / 12) (mAt n k % 12 + 1)
  else if e = true ∧ civD n = mlen (civY n) (civM n) then mlen (mAt n k / 12) (mAt n k % 12 + 1) else civD n
def monthsOk (n k : Int) : Prop := -4000 ≤ k ∧ k ≤ 4000 ∧ 22800 ≤ mAt n k ∧ mAt n k ≤ 26399
instance monthsOkDec (n k : Int) : Decidable (monthsOk n k) := inferInstanceAs (Decidable (_ ∧ _))
def months (n k : Int) (e : Bool) : Int × Int :=
  if 0 ≤ n ∧ n ≤ 109572 then (if monthsOk n k then (dayOf (mAt n k / 12) (mAt n k % 12 + 1) (monthsDay n k e), 0) else (0, 51)) else (0, 51)
def third (y m : Int) : Int := dayOf y m 15 + (9 - dayOf y m 15 % 7) % 7
theorem mAt_rng {n k : Int} (h : monthsOk n k) : 1900 ≤ mAt n k / 12 ∧ mAt n k / 12 ≤ 2199 ∧ 1 ≤ mAt n k % 12 + 1 ∧ mAt n k % 12 + 1 ≤ 12 := by
  unfold monthsOk at h; omega
theorem monthsDay_rng {n k : Int} (e : Bool) (hn : 0 ≤ n ∧ n ≤ 109572) : 1 ≤ monthsDay n k e ∧ monthsDay n k e ≤ mlen (mAt n k / 12) (mAt n k % 12 + 1) := by
 have h := (civ_spec n hn.1 hn.2).1
 have l := mlen_rng (mAt n k / 12) (mAt n k % 12 + 1)
 unfold isDate at h
 unfold monthsDay
 split
 ·
  omega
 ·
  split <;> omega
theorem monthsDate {n k : Int} (e : Bool) (hn : 0 ≤ n ∧ n ≤ 109572) (h : monthsOk n k) : isDate (mAt n k / 12) (mAt n k % 12 + 1) (monthsDay n k e) := by
  have a := mAt_rng h; have b := monthsDay_rng e hn (k := k)
  exact ⟨a.1, a.2.1, a.2.2.1, a.2.2.2, b.1, b.2⟩
theorem d15 {y m : Int} (h : 1900 ≤ y ∧ y ≤ 2199 ∧ 1 ≤ m ∧ m ≤ 12) : isDate y m 15 := by
  have := mlen_rng y m; unfold isDate; omega
end Go.Proofs.Ytoncignjcgjhhaa.M
namespace Go.Proofs.Ytoncignjcgjhhaa.L
open Go.RowKit Go.Proofs.YtoncignjcgjhhaaW.PrintWords Go.Proofs.YtoncignjcgjhhaaW.PrintLast Go.Proofs.YtoncignjcgjhhaaW.PrintMore
open Go.Proofs.Ytoncignjcgjhhaa.Q
theorem dmonth (y m : Int) : date_month.f y m = some (decide (1900 ≤ y ∧ y ≤ 2199 ∧ 1 ≤ m ∧ m ≤ 12)) := by
 unfold date_month.f
 repeat' split
 all_goals first | (congr 1; rw [decide_eq_decide]; omega) | (congr 1; symm; rw [decide_eq_false_iff_not]; omega)
theorem Months_j0t (n k : Int) (e : Bool) : Ev (fun q => date_Months.j0 q n k e true) ((0, 51) : Int × Int) :=
  Ev.step (f := fun _ => some ((0, 51) : Int × Int)) (fun q => by rw [date_Months.j0, if_pos rfl]) (Ev.now _)
theorem Months_j0f (n k : Int) (e : Bool) (hn : 0 ≤ n ∧ n ≤ 109572) (h0 : -4000 ≤ k) (h1 : k ≤ 4000) :
  Ev (fun q => date_Months.j0 q n k e false) (if M.monthsOk n k then (M.dayOf (M.mAt n k / 12) (M.mAt n k % 12 + 1) (M.monthsDay n k e), 0) else ((0, 51) : Int × Int)) := by
 have hs := (M.civ_spec n hn.1 hn.2).1
 unfold M.isDate at hs
 have hm : 0 ≤ M.mAt n k := by unfold M.mAt; omega
 have hm2 : M.mAt n k ≤ 40000 := by unfold M.mAt; omega
 have e1 : wrap64 (wrap64 (wrap64 (wrap64 (12 * M.civY n) + M.civM n) - 1) + k) = M.mAt n k := by
  unfold M.mAt
  rw [w64 (x := 12 * M.civY n) (by omega) (by omega), w64 (x := 12 * M.civY n + M.civM n) (by omega) (by omega), w64 (x := 12 * M.civY n + M.civM n - 1) (by omega) (by omega), w64 (by omega) (by omega)]
 have e2 : wrap64 (Int.tdiv (M.mAt n k) 12) = M.mAt n k / 12 := by rw [td hm, w64 (by omega) (by omega)]
 have e3 : wrap64 (Int.tmod (M.mAt n k) 12 + 1) = M.mAt n k % 12 + 1 := by rw [tm hm, w64 (by omega) (by omega)]
 have hstep : ∀ q, date_Months.j0 (q + 1) n k e false = (date_civil.f q n).bind fun (bt721 : Int × Int × Int) => _ := fun q => by rw [date_Months.j0, if_neg (by decide)]
 refine Ev.step hstep (Ev.bind (civil n hn.1 hn.2) ?_)
 clear hstep
 have hl := M.mlen_rng (M.mAt n k / 12) (M.mAt n k % 12 + 1)
 by_cases ho : M.monthsOk n k
 ·
  rw [if_pos ho]
  have hr := M.mAt_rng ho
  have hd : ∀ d : Int, 1 ≤ d → d ≤ 31 → Ev (fun q => (date_day.f q (M.mAt n k / 12) (M.mAt n k % 12 + 1) d).bind fun t => some (t, (0 : Int))) (M.dayOf (M.mAt n k / 12) (M.mAt n k % 12 + 1) d, 0) :=
   fun d a b => Ev.bind (day _ _ d (by omega) (by omega) (by omega) (by omega) (by omega) (by omega)) (Ev.now _)
  refine Ev.congr (fun q => by simp only [e1, e2, e3, length, Option.bind_some, dmonth]; rw [decide_eq_true hr, if_pos rfl]) ?_
  unfold M.monthsDay
  by_cases c1 : M.civD n > M.mlen (M.mAt n k / 12) (M.mAt n k % 12 + 1)
  ·
   rw [if_pos c1]
   exact Ev.congr (fun q => if_pos c1) (hd _ (by omega) (by omega))
  ·
   rw [if_neg c1]
   refine Ev.congr (fun q => if_neg c1) ?_
   cases e with
   | true =>
    refine Ev.congr (fun q => if_pos rfl) ?_
    by_cases c2 : M.civD n = M.mlen (M.civY n) (M.civM n)
    ·
     rw [if_pos ⟨rfl, c2⟩]
     exact Ev.congr (fun q => if_pos c2) (hd _ (by omega) (by omega))
    ·
     rw [if_neg (fun h => c2 h.2)]
     exact Ev.congr (fun q => if_neg c2) (hd _ (by omega) (by omega))
   | false =>
    rw [if_neg (fun h => absurd h.1 (by decide))]
    exact Ev.congr (fun q => if_neg (by decide)) (hd _ (by omega) (by omega))
 ·
  rw [if_neg ho]
  refine Ev.congr (fun q => ?_) (Ev.now _)
  have hr : ¬ (1900 ≤ M.mAt n k / 12 ∧ M.mAt n k / 12 ≤ 2199 ∧ 1 ≤ M.mAt n k % 12 + 1 ∧ M.mAt n k % 12 + 1 ≤ 12) := by
   intro h; apply ho; unfold M.monthsOk; omega
  simp only [e1, e2, e3, length, Option.bind_some, dmonth]
  rw [decide_eq_false hr, if_neg (by decide)]
theorem Months (n k : Int) (e : Bool) : Ev (fun q => date_Months.f q n k e) (M.months n k e) := by
 unfold M.months
 refine Ev.congr (fun q => by unfold date_Months.f; rw [dis, Option.bind_some]) ?_
 by_cases hn : 0 ≤ n ∧ n ≤ 109572
 ·
  rw [if_pos hn]
  refine Ev.congr (fun q => by rw [decide_eq_true hn, if_pos rfl]) ?_
  by_cases h0 : k < -4000
  ·
   rw [if_neg (fun h => by have := h.1; omega)]
   exact Ev.congr (fun q => if_pos h0) (Months_j0t n k e)
  ·
   refine Ev.congr (fun q => if_neg h0) ?_
   by_cases h1 : k > 4000
   ·
    rw [if_neg (fun h => by have := h.2.1; omega)]
    exact Ev.congr (fun q => by rw [decide_eq_true h1]) (Months_j0t n k e)
   ·
    exact Ev.congr (fun q => by rw [decide_eq_false h1]) (Months_j0f n k e hn (by omega) (by omega))
 ·
  rw [if_neg hn]
  exact Ev.congr (fun q => by rw [decide_eq_false hn, if_neg (by decide)]) (Months_j0t n k e)
theorem Third (y m : Int) : Ev (fun q => date_Third.f q y m) (if 1900 ≤ y ∧ y ≤ 2199 ∧ 1 ≤ m ∧ m ≤ 12 then (M.third y m, 0) else ((0, 50) : Int × Int)) := by
 refine Ev.congr (fun q => by unfold date_Third.f; rw [dmonth, Option.bind_some]) ?_
 by_cases h : 1900 ≤ y ∧ y ≤ 2199 ∧ 1 ≤ m ∧ m ≤ 12
 ·
  rw [if_pos h]
  refine Ev.congr (fun q => by rw [decide_eq_true h, if_pos rfl]) (Ev.bind (day y m 15 (by omega) (by omega) (by omega) (by omega) (by omega) (by omega)) ?_)
  refine Ev.congr (fun q => ?_) (Ev.now _)
  have hr := M.day_rng (M.d15 h)
  unfold M.third
  rw [tm hr.1, w64 (x := 9 - M.dayOf y m 15 % 7) (by omega) (by omega), tm (a := 9 - M.dayOf y m 15 % 7) (by omega), w64 (by omega) (by omega)]
 ·
  rw [if_neg h]
  exact Ev.congr (fun q => by rw [decide_eq_false h, if_neg (by decide)]) (Ev.now _)
end Go.Proofs.Ytoncignjcgjhhaa.L
namespace Go.Proofs.Ytoncignjcgjhhaa.H
open Go.RowKit Go.Maps Go.Proofs.YtoncignjcgjhhaaW.PrintWords Go.Proofs.YtoncignjcgjhhaaW.PrintLast Go.Proofs.YtoncignjcgjhhaaW.PrintMore
open Go.Proofs.Ytoncignjcgjhhaa.Q (S63 k63 z63)
theorem law3 : Keyed Try.prog 3 := int_keyed Try.underlying3
theorem zero3 (w : World) : (zeroValue 3).run Try.prog w = .ok (.int .i64 0) w := by kernel_rfl
theorem wf_i64 {x : Int} (h : L.i64 x) : (Lit.int .i64 x).wf = true := by
 have hmin : IntKind.i64.min = -9223372036854775808 := rfl
 have hmax : IntKind.i64.max = 9223372036854775807 := rfl
 unfold L.i64 at h
 simp only [Lit.wf, Bool.and_eq_true, decide_eq_true_eq]
 omega
def b01 (b : Bool) : Int := if b = true then 1 else 0
def MapOk (w : World) (b n : Nat) (f : Int → Bool) : Prop :=
  ∃ D : DataW Unit, w.ownsMap Try.prog 3 (plainElem Try.prog 3) b n D ∧ IsMap D ∧ ∀ x, L.i64 x → D.atKey (.int .i64 x) (.lit (.int .i64 0)) = .lit (.int .i64 (b01 (f x)))
theorem MapOk.mono {w : World} {b n n' : Nat} {f : Int → Bool} (h : MapOk w b n f) (hn : n ≤ n') : MapOk w b n' f := by
  obtain ⟨D, h, r⟩ := h; exact ⟨D, h.mono hn, r⟩
theorem MapOk.kept {w w1 : World} {b n : Nat} {f : Int → Bool} {row : Option Nat} (h : MapOk w b n f) (hg : w.grownBy w1 row) (hne : some b ≠ row) : MapOk w1 b n f := by
  obtain ⟨D, h, r⟩ := h; exact ⟨D, h.kept hg hne, r⟩
theorem MapOk.made (w : World) : MapOk (w.alloc (.map #[] 0)) w.heap.size 0 (fun _ => false) :=
  ⟨.map [], World.ownsMap_made _ _ _ _, ⟨[], rfl⟩, fun _ _ => rfl⟩
theorem wp_look (w : World) {ops : Array Oper} {rest : List Oper} {o : Oper} {a : Act} {Q : Exit → Act → World → Prop} (hg : o.guard = none) (m x : Operand) (hop : o.op = Op.lookup 127 m x false)
  (b n : Nat) (f : Int → Bool) (hm : a.eval m = .map (some b)) (hown : MapOk w b n f) (key : Int) (hx : a.eval x = .int .i64 key) (hk : L.i64 key) (hK : wpList Try.prog ops Q rest (a.put o.dst (.int .i64 (b01 (f key)))) w) :
  wpList Try.prog ops Q (o :: rest) a w := by
 obtain ⟨D, hD, _, hf⟩ := hown
 refine wpList_lookup_own_int w hg m x 127 hop 3 3 .i64 law3 Try.underlying127 Try.underlying3 (zero3 w) b n D hm hD _ _ hx (keyOf_int_mk Try.underlying3 (wf_i64 hk)) ?_
 intro c hc _
 rw [hf key hk] at hc
 have e : b01 (f key) = c := by injection hc with hc; injection hc
 rw [← e]; exact hK
theorem wp_store (w : World) {ops : Array Oper} {rest : List Oper} {o : Oper} {a : Act} {Q : Exit → Act → World → Prop} (hg : o.guard = none) (m x v : Operand) (hop : o.op = Op.mapUpdate 127 m x v)
  (b n : Nat) (f : Int → Bool) (hm : a.eval m = .map (some b)) (hown : MapOk w b n f) (hn : n < maxLen) (key : Int) (hx : a.eval x = .int .i64 key) (hv : a.eval v = .int .i64 1) (hk : L.i64 key)
  (hK : ∀ w', MapOk w' b (n + 1) (fun y => f y || decide (y = key)) → w.grownBy w' (some b) → wpList Try.prog ops Q rest (a.put o.dst undef) w') :
  wpList Try.prog ops Q (o :: rest) a w := by
 obtain ⟨D, hD, hI, hf⟩ := hown
 refine wpList_mapUpdate_own w hg m x v 127 hop 3 3 law3 Try.underlying127 _ b n D hm hD hn _ _ _ hx hv (keyOf_int_mk Try.underlying3 (wf_i64 hk)) _ [] (plainElem_int Try.underlying3 (a := 1) (by decide)) ?_
 intro w' h' hgr
 refine hK w' ⟨_, h', hI.put _ _, fun y hy => ?_⟩ hgr
 by_cases e : y = key
 ·
  subst e
  rw [atKey_put_same (k := .int .i64 y) hI trivial]
  simp [b01]
 ·
  rw [atKey_put_other (k := .int .i64 key) (k' := .int .i64 y) (by intro h; injection h with h1 h2; exact e h2), hf y hy]
  simp [e]
structure Bk (w0 w : World) (bb md mb : Nat) (we : Int) (A : Option Addr) (c : Nat) (l : List S63) (n : Nat) (S f : Int → Bool) : Prop where
 bel : Below w0.heap.size w0 w
 blk : w.heap[bb]? = some (.cells #[.int .i64 we, .slice A l.length c, .map (some md), .map (some mb)] 129 (0, 0))
 gb : w0.heap.size ≤ bb
 gd : w0.heap.size ≤ md
 gm : w0.heap.size ≤ mb
 ne : md ≠ mb
 nd : bb ≠ md
 nm : bb ≠ mb
 dn : MapOk w md n S
 dy : MapOk w mb n f
section
variable {w0 w w1 : World} {bb md mb : Nat} {we : Int} {A : Option Addr} {c : Nat} {l : List S63} {n : Nat} {S f : Int → Bool}
theorem Bk.c0 (h : Bk w0 w bb md mb we A c l n S f) : w.cell? ⟨bb, 0, none⟩ = some (.int .i64 we) := (blk_cell h.blk 0).trans rfl
theorem Bk.c1 (h : Bk w0 w bb md mb we A c l n S f) : w.cell? ⟨bb, 1, none⟩ = some (.slice A l.length c) := (blk_cell h.blk 1).trans rfl
theorem Bk.c2 (h : Bk w0 w bb md mb we A c l n S f) : w.cell? ⟨bb, 2, none⟩ = some (.map (some md)) := (blk_cell h.blk 2).trans rfl
theorem Bk.c3 (h : Bk w0 w bb md mb we A c l n S f) : w.cell? ⟨bb, 3, none⟩ = some (.map (some mb)) := (blk_cell h.blk 3).trans rfl
theorem Bk.step (h : Bk w0 w bb md mb we A c l n S f) (hb : Below w.heap.size w w1) : Bk w0 w1 bb md mb we A c l n S f :=
  ⟨below_step h.bel hb, blk_below h.blk hb, h.gb, h.gd, h.gm, h.ne, h.nd, h.nm, h.dn.kept (grown_of_below hb none) (by simp), h.dy.kept (grown_of_below hb none) (by simp)⟩
theorem Bk.alloc (h : Bk w0 w bb md mb we A c l n S f) (o : Obj) : Bk w0 (w.alloc o) bb md mb we A c l n S f := h.step (below_alloc (Below.refl _ _) o)
theorem Bk.drewN (h : Bk w0 w bb md mb we A c l n S f) (k : Nat) : Bk w0 (w.drewN k) bb md mb we A c l n S f := h.step (pw_below_drewN (Below.refl _ _) k)
theorem Bk.drew (h : Bk w0 w bb md mb we A c l n S f) : Bk w0 w.drew bb md mb we A c l n S f := h.step (below_drew (Below.refl _ _))
theorem Bk.mono (h : Bk w0 w bb md mb we A c l n S f) {n' : Nat} (hn : n ≤ n') : Bk w0 w bb md mb we A c l n' S f :=
  ⟨h.bel, h.blk, h.gb, h.gd, h.gm, h.ne, h.nd, h.nm, h.dn.mono hn, h.dy.mono hn⟩
theorem Bk.stored_d {S' : Int → Bool} (h : Bk w0 w bb md mb we A c l n S f) (hg : w.grownBy w1 (some md)) (hm : MapOk w1 md (n + 1) S') : Bk w0 w1 bb md mb we A c l (n + 1) S' f :=
  ⟨pw_below_grown h.bel (some md) h.bel.size hg (by intro k hk; injection hk with hk; subst hk; exact h.gd), blk_grown h.blk hg (by have := h.nd; simpa using this), h.gb, h.gd, h.gm, h.ne, h.nd, h.nm, hm,
    (h.dy.kept hg (by have := h.ne; simp; omega)).mono (by omega)⟩
theorem Bk.stored_m {f' : Int → Bool} (h : Bk w0 w bb md mb we A c l n S f) (hg : w.grownBy w1 (some mb)) (hm : MapOk w1 mb (n + 1) f') : Bk w0 w1 bb md mb we A c l (n + 1) S f' :=
  ⟨pw_below_grown h.bel (some mb) h.bel.size hg (by intro k hk; injection hk with hk; subst hk; exact h.gm), blk_grown h.blk hg (by have := h.nm; simpa using this), h.gb, h.gd, h.gm, h.ne, h.nd, h.nm,
    (h.dn.kept hg (by have := h.ne; simp; omega)).mono (by omega), hm⟩
end
structure Ok (w0 : World) (we : Int) (A : Option Addr) (l : List S63) : Prop where
 rd : Kd.C k63 w0 A l.length l
 h0 : 0 ≤ we
 h1 : we ≤ 126
 len : l.length ≤ 64
 wf : ∀ x ∈ l, wfS x
 may : ∀ x ∈ l, M.may (ru x) = true
end Go.Proofs.Ytoncignjcgjhhaa.H
namespace Go.Proofs.Ytoncignjcgjhhaa.Q
open Go.RowKit Go.Proofs.YtoncignjcgjhhaaW.PrintWords Go.Proofs.YtoncignjcgjhhaaW.PrintLast Go.Proofs.YtoncignjcgjhhaaW.PrintMore
attribute [local go_sem] max2_int min2_int max_two min_two max_three min_three max_four min_four   -- for this text's walks alone
-- NOT PRINTED: function 70 (cal_begin)
def cal_is.f (a0 : Int) : Option (Bool) := (cal_within.f a0 0 109572).bind fun t154 => (some t154)
set_option maxHeartbeats 8000000 in
set_option maxRecDepth 100000 in
theorem cal_is.calls (a0 : Int) (r : Bool) (w : World) (h : cal_is.f a0 = some r) :
  Calls Try.prog 71 #[.int .i64 a0] w fun e w' => e = .returned (.bool r) ∧ Drawn0 w w' := by
 have H : ((cal_within.f a0 0 109572).bind fun t154 => (some t154)) = some r := h
 clear h;replace H := Option.bind_eq_some_iff.mp H
 obtain ⟨t154, A20, H⟩ := H
 replace H : (some t154) = some r := H
 have A2 := Aside0.mk A20;clear A20
 obtain rfl := Option.some.inj H
 go_enter Try.func71, Try.ntmps71
 go_wp2_with (first | ((with_reducible refine gG 83 ?_); refine goA (some 4) Try.func83 #[.int .i64 a0, .int .i64 0, .int .i64 109572] ?_; (with_reducible refine (cal_within.calls a0 0 109572 t154 _ A2.out).mono ?_); rintro e w' ⟨rfl, ⟨nd, rfl⟩⟩; refine ⟨_, rfl, ?_⟩))
 go_ret
 exact ⟨eS, eD⟩
-- NOT PRINTED: function 107 (cal_book_off)
-- NOT PRINTED: function 132 (cal_book_moved)
-- NOT PRINTED: function 109 (cal_book_year)
-- NOT PRINTED: function 75 (cal_book_holiday)
-- NOT PRINTED: function 72 (cal_book_open)
end Go.Proofs.Ytoncignjcgjhhaa.Q
