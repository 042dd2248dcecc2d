/- The count laws' own try tells true. No condition. -/
import Derived.Test.YtoncignjcgjhhaaZOCYear
import Derived.Test.YtoncignjcgjhhaaZO
set_option linter.unusedVariables false
set_option linter.unusedSimpArgs false
namespace Go.Proofs.Ytoncignjcgjhhaa.Q
open Go.RowKit Go.Proofs.YtoncignjcgjhhaaW.PrintWords Go.Proofs.YtoncignjcgjhhaaW.PrintLast Go.Proofs.YtoncignjcgjhhaaW.PrintMore
set_option linter.unusedVariables false
set_option linter.unusedSimpArgs false
def tenorlaw7_awake.f : Option Bool := some true
theorem awake7_a : count_Fraction.f 400 3 0 ([] : List S63) 45289 45291 = some (731, 133590, 0) := by decide +kernel
theorem awake7_b : count_Year.f 400 2 0 ([] : List S63) 45656 46021 = some (4607182418800017408, 0) := by decide +kernel
theorem awake7_c : FloatKind.f64.format.order 4607182418800017408 4607182418800017408 = some .eq := by decide +kernel
set_option maxHeartbeats 8000000 in
set_option maxRecDepth 100000 in
theorem tenorlaw7_awake.calls (r : Bool) (w : World) (h : tenorlaw7_awake.f = some r) :
    Calls Try.prog 26 #[] w fun e w' => e = .returned (.bool r) ∧ Below w.heap.size w w' := by
  obtain rfl := Option.some.inj h
  clear h
  have HB := Aside0.mk (Below.refl w.heap.size w)
  have A2 := Aside0.mk awake7_a
  have A3 := Aside0.mk awake7_b
  obtain ⟨one, hone⟩ : ∃ x : Nat, x = 4607182418800017408 := ⟨_, rfl⟩
  have hc : (FloatKind.f64.format.order one 4607182418800017408 == some Ordering.eq) = true := by rw [hone, awake7_c]; rfl
  rw [← hone] at A3
  clear hone
  go_enter Try.func26, Try.ntmps26
  go_wp2_with (first | (go_at_call 27; (refine (count_Fraction.calls 400 3 0 _ _ ([] : List S63) 45289 45291 731 133590 0 _ ?side1 ?side2 A2.out).mono ?_); (case side1 => exact Kd.C_nil _ _); (case side2 => exact Nat.le_refl _); rintro e w7 ⟨rfl, hb⟩; have n1_ := Aside0.mk (below_step (by repeat (first | (with_reducible first | exact HB.out | apply below_alloc | apply pw_below_drewN | apply below_drew1) | exact HB.out)) hb); clear HB; have HB := n1_; clear n1_; (try clear hb)) | (go_at_call 29; (refine (count_Year.calls 400 2 0 _ _ ([] : List S63) 45656 46021 one 0 _ ?side1 ?side2 A3.out).mono ?_); (case side1 => exact Kd.C_nil _ _); (case side2 => exact Nat.le_refl _); rintro e w8 ⟨rfl, hb⟩; have n1_ := Aside0.mk (below_step (by repeat (first | (with_reducible first | exact HB.out | apply below_alloc | apply pw_below_drewN | apply below_drew1) | exact HB.out)) hb); clear HB; have HB := n1_; clear n1_; (try clear hb)))
  go_ret
  exact ⟨by first | rfl | (simp [hc]; done) | (simp [hc] <;> rfl), by repeat (first | (with_reducible first | exact HB.out | apply below_alloc | apply pw_below_drewN | apply below_drew1) | exact HB.out)⟩
end Go.Proofs.Ytoncignjcgjhhaa.Q
