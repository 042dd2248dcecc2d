/- The program's year fraction as a float, and the try of the count laws. Condition: the quotient of the two floats is a float. -/
import Derived.Test.YtoncignjcgjhhaaZOQx13
import Derived.Laws.FloatArith
import Derived.Test.YtoncignjcgjhhaaZO
set_option linter.unusedVariables false
set_option linter.unusedSimpArgs false
namespace Go.Proofs.Ytoncignjcgjhhaa.Q
open Go.RowKit Go.Proofs.YtoncignjcgjhhaaW.PrintWords Go.Proofs.YtoncignjcgjhhaaW.PrintLast Go.Proofs.YtoncignjcgjhhaaW.PrintMore
set_option linter.unusedVariables false
set_option linter.unusedSimpArgs false
/-- The float next to p/q. -/
def quo64 (p q : Int) : Option Nat := floatBits .quo .f64 (floatOfInt .f64 p) (floatOfInt .f64 q)
def count_Year.f (k : Nat) (a0 : Int) (a1_0 : Int) (l1_1 : List (S63)) (a2 : Int) (a3 : Int) : Option (Nat × Int) := (count_Fraction.f k a0 a1_0 l1_1 a2 a3).bind fun bt => if bt.2.2 = 0 then (quo64 bt.1 bt.2.1).bind (fun x => some (x, 0)) else some (0, bt.2.2)
theorem count_Year.mono : ∀ a0 a1 a2 a3 a4 k, LeO (count_Year.f k a0 a1 a2 a3 a4) (count_Year.f (k + 1) a0 a1 a2 a3 a4) := by
  intro a0 a1 a2 a3 a4 k
  unfold count_Year.f
  exact LeO.bind (count_Fraction.mono _ _ _ _ _ _) (fun _ => LeO.refl _)
set_option maxHeartbeats 8000000 in
set_option maxRecDepth 100000 in
theorem count_Year.calls (k : Nat) (a0 : Int) (a1_0 : Int) (A1_1 : Option Addr) (c1_1 : Nat) (l1_1 : List (S63)) (a2 : Int) (a3 : Int) (r1 : Nat) (r2 : Int) (w : World) (hr1_1 : Kd.C k63 w A1_1 l1_1.length l1_1) (hc1_1 : l1_1.length ≤ c1_1) (h : count_Year.f k a0 a1_0 l1_1 a2 a3 = some (r1, r2)) :
    Calls Try.prog 29 #[.int .i64 a0, .agg #[.int .i64 a1_0, .slice A1_1 l1_1.length c1_1], .int .i64 a2, .int .i64 a3] w fun e w' => e = .returned (.tuple #[.float .f64 r1, .int .i64 r2]) ∧ Below w.heap.size w w' := by
  have hu24 := Try.underlying24
  have HR1_1 := Aside0.mk hr1_1
  have HC1_1 := Aside0.mk hc1_1
  clear hr1_1 hc1_1
  have HB := Aside0.mk (Below.refl w.heap.size w)
  unfold count_Year.f at h
  obtain ⟨⟨t1, t2, t3⟩, A20, H⟩ := Option.bind_eq_some_iff.mp h
  clear h
  have A2 := Aside0.mk A20
  clear A20
  replace H : (if t3 = 0 then (quo64 t1 t2).bind (fun x => some (x, 0)) else some (0, t3)) = some (r1, r2) := H
  by_cases c3 : t3 = 0
  · rw [if_pos c3] at H
    subst c3
    obtain ⟨x, hx, hq⟩ := Option.bind_eq_some_iff.mp H
    clear H
    simp only [Option.some.injEq, Prod.mk.injEq] at hq
    obtain ⟨rfl, rfl⟩ := hq
    have hop : ∀ t w, (binOp .quo t (.float .f64 (floatOfInt .f64 t1)) (.float .f64 (floatOfInt .f64 t2))).run Try.prog w = .ok (.float .f64 x) w := fun t w => run_float_arith w .quo t .f64 _ _ x hx
    clear hx
    go_enter Try.func29, Try.ntmps29
    go_wp2_with (first | ((with_reducible refine gate_dst (N := 5) rfl ?_); refine box_event ?hg (N := 5) ?hd (cs := #[.int .i64 a1_0, .slice A1_1 l1_1.length c1_1]) (t := 24) ?hr ?_; (case hd => rfl); (case hg => rfl); (case hr => first | (go_simp; done) | (go_simp; rfl)); intro gb1 hg w6 hbox hb; have n0_ := Aside0.mk (below_step (by repeat (first | (with_reducible first | exact HB.out | apply below_alloc | apply pw_below_drewN | apply below_drew1) | exact HB.out)) hb); have n1_ := Aside0.mk (hbox); clear HB; have HB := n0_; have BK1 := n1_; clear n0_ n1_; clear hb hbox hg; have hcz5_0 : w6.cell? ⟨gb1, 0, none⟩ = some (.int .i64 a1_0) := (blk_cell BK1.out 0).trans rfl; have hcz5_1 : w6.cell? ⟨gb1, 1, none⟩ = some (.slice A1_1 l1_1.length c1_1) := (blk_cell BK1.out 1).trans rfl; have hfz5_0 := blk_frozen BK1.out 0; have hfz5_1 := blk_frozen BK1.out 1) | (go_at_call 27; (with_reducible refine (count_Fraction.calls k a0 a1_0 _ _ l1_1 a2 a3 t1 t2 0 _ ?side1 ?side2 A2.out).mono ?_); (case side1 => repeat (first | exact (Kd.C_below HR1_1.out HB.out) | (with_reducible refine Kd.C_alloc ?_ _) | (with_reducible refine Kd.C_drewN ?_ _) | (with_reducible refine Kd.C_drew ?_))); (case side2 => exact HC1_1.out); rintro e w7 ⟨rfl, hb⟩; have n1_ := Aside0.mk (below_step (by repeat (first | (with_reducible first | exact HB.out | apply below_alloc | apply pw_below_drewN | apply below_drew1) | exact HB.out)) hb); clear HB; have HB := n1_; clear n1_; (try clear hb)) | simp only [hop])
    go_ret2
    exact ⟨by first | rfl | (simp [errW_none, errW_some] <;> rfl), by repeat (first | (with_reducible first | exact HB.out | apply below_alloc | apply pw_below_drewN | apply below_drew1) | exact HB.out)⟩
  · rw [if_neg c3] at H
    simp only [Option.some.injEq, Prod.mk.injEq] at H
    obtain ⟨rfl, rfl⟩ := H
    have c3b0 : (t3 == 0) = false := beq_eq_false_iff_ne.mpr c3
    have c3b1 : (t3 != 0) = true := bne_iff_ne.mpr c3
    go_enter Try.func29, Try.ntmps29
    go_wp2_with (first | ((with_reducible refine gate_dst (N := 5) rfl ?_); refine box_event ?hg (N := 5) ?hd (cs := #[.int .i64 a1_0, .slice A1_1 l1_1.length c1_1]) (t := 24) ?hr ?_; (case hd => rfl); (case hg => rfl); (case hr => first | (go_simp; done) | (go_simp; rfl)); intro gb1 hg w6 hbox hb; have n0_ := Aside0.mk (below_step (by repeat (first | (with_reducible first | exact HB.out | apply below_alloc | apply pw_below_drewN | apply below_drew1) | exact HB.out)) hb); have n1_ := Aside0.mk (hbox); clear HB; have HB := n0_; have BK1 := n1_; clear n0_ n1_; clear hb hbox hg; have hcz5_0 : w6.cell? ⟨gb1, 0, none⟩ = some (.int .i64 a1_0) := (blk_cell BK1.out 0).trans rfl; have hcz5_1 : w6.cell? ⟨gb1, 1, none⟩ = some (.slice A1_1 l1_1.length c1_1) := (blk_cell BK1.out 1).trans rfl; have hfz5_0 := blk_frozen BK1.out 0; have hfz5_1 := blk_frozen BK1.out 1) | (go_at_call 27; (with_reducible refine (count_Fraction.calls k a0 a1_0 _ _ l1_1 a2 a3 t1 t2 t3 _ ?side1 ?side2 A2.out).mono ?_); (case side1 => repeat (first | exact (Kd.C_below HR1_1.out HB.out) | (with_reducible refine Kd.C_alloc ?_ _) | (with_reducible refine Kd.C_drewN ?_ _) | (with_reducible refine Kd.C_drew ?_))); (case side2 => exact HC1_1.out); rintro e w7 ⟨rfl, hb⟩; have n1_ := Aside0.mk (below_step (by repeat (first | (with_reducible first | exact HB.out | apply below_alloc | apply pw_below_drewN | apply below_drew1) | exact HB.out)) hb); clear HB; have HB := n1_; clear n1_; (try clear hb)))
    go_ret2
    exact ⟨by first | rfl | (simp [errW_none, errW_some] <;> rfl), by repeat (first | (with_reducible first | exact HB.out | apply below_alloc | apply pw_below_drewN | apply below_drew1) | exact HB.out)⟩
end Go.Proofs.Ytoncignjcgjhhaa.Q
