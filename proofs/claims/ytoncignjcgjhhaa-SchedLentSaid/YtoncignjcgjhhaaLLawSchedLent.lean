/- The law SchedLent: whatever the input, it tells true, and what it was handed reads as before. No condition. -/
import Derived.Test.YtoncignjcgjhhaaRows
import Derived.Test.YtoncignjcgjhhaaLLawLentF
import Derived.Test.YtoncignjcgjhhaaLGC
import Derived.Test.YtoncignjcgjhhaaLPureSLent
import Derived.WalkKit
import Derived.ProofKit
import Derived.OpenShut
import Derived.ChangeOld
import Derived.Below
import Derived.SizedLaws
set_option linter.unusedVariables false
set_option linter.unusedSimpArgs false
namespace Go.Proofs.Ytoncignjcgjhhaa.schedLent
open Go.ChangeShapes Go.WideShapes Go.ChangeAt Go.RowKit
open Go.Proofs.Ytoncignjcgjhhaa.Q (S63 k63 wfL)
theorem own : ownKnob Try.prog.godebug = none := by kernel_rfl
theorem laidOut : laidOutB Try.prog = true := by kernel_rfl
set_option maxRecDepth 100000 in
theorem lifted (os : Os) (started : os.Started) (H : Type) (enc : TypeId × Value → H) :
  ReturnsInHanded {} Try.checked os 21 .any (Rows.schedLentSpec.pre6 enc Try.prog Try.f21 Rows.schedLentRow.domain false) (Rows.schedLentSpec.post enc Try.prog Try.f21 false true false false) := by
 refine returnsInHanded_of_change_sized (C := Try.checked) own started (by kernel_rfl) Try.func21
  (ChangeSpec.witness6 (enc := enc) (C := Try.checked) false ⟨#[], #[.agg #[.int .i64 0, .int .i64 0, .int .i64 0, .int .i64 0, .int .i64 0, .int .i64 0, .int .i64 0, .int .i64 0, .int .i64 0, .slice none 0 0]], []⟩ 8 (by kernel_rfl) (by kernel_rfl) (by kernel_rfl) (by kernel_rfl)) ?_
 intro W base args ds gs before hval0 hW hcnd hsz0 _
 have hval : ∀ (j : Nat) t v, Try.f21.params[j]? = some t → args[j]? = some v → Value.okWide Try.prog W .any base t v := hval0
 have hW' := hW
 obtain ⟨p, q, hA0, hV, rfl, hfz, hnd⟩ := hW
 have hA : DataW.TrodAll enc Try.prog W 0 (fun _ => true) true Try.f21.params.toList args.toList ds p := hA0
 rw [Try.params21] at hA hval
 obtain ⟨v0, vs0, d0, ds0, p0, q0, hargs, rfl, rfl, h0, r0⟩ := trodAll_cons hA
 obtain ⟨rfl, rfl, rfl⟩ := trodAll_nil r0
 obtain rfl : args = #[v0] := by cases args; simp_all
 obtain ⟨rfl, rfl⟩ := trodVars_none hV
 have lt0 : ∀ x ∈ p0, x.block < W.heap.size := by obtain ⟨m, hm⟩ := h0; exact DataW.trod_lt m _ _ _ hm
 obtain ⟨s0_0, s0_1, s0_2, s0_3, s0_4, s0_5, s0_6, s0_7, we0, A0, c0, l0, rfl, hc0, hk0, hw0⟩ := O.spec_open (hval 0 66 v0 rfl rfl) h0
 obtain ⟨k, h⟩ := (S.SchedLent ⟨s0_0, s0_1, s0_2, s0_3, s0_4, s0_5, s0_6, s0_7, we0, l0⟩ hw0).rounds
 refine (Q.tenorlaw8_SchedLent.calls k s0_0 s0_1 s0_2 s0_3 s0_4 s0_5 s0_6 s0_7 we0 A0 c0 l0 true W hk0 hc0 h rfl).mono fun e W' ⟨he, bel⟩ => ?_
 subst he
 exact ⟨_, rfl, _, _, _, [], _, [], hW', trodAll_mk1 (shut_bool Try.underlying4 _), (trodAll_cons_mk (Below.trod laidOut (by kernel_rfl) (of_decide_eq_true (by kernel_rfl)) h0 bel lt0) trodAll_mk0), rfl, bel.frame _, fun h => by cases h⟩
theorem over : Rows.schedLentRow.holds Try.pinned (OpenSpec.ofChange Rows.schedLentSpec) :=
 OpenClaim.holds_of_wide 21 Try.f21 rfl rfl rfl rfl rfl rfl rfl ⟨rfl, rfl, rfl, rfl, rfl⟩ rfl rfl rfl rfl rfl (by kernel_rfl) Try.func21 facts
  (of_decide_eq_true (by kernel_rfl)) (by unfold Func.isWrapper; first | (rw [if_pos (by decide +kernel)]; kernel_rfl) | (rw [if_neg (by decide +kernel)]; exact ⟨rfl, rfl⟩))
  (fun os started H enc _ => lifted os started H enc)
theorem proved : Rows.SchedLentSaid := over
end Go.Proofs.Ytoncignjcgjhhaa.schedLent
namespace Go.Proofs.Ytoncignjcgjhhaa
theorem schedLent_holds : Rows.SchedLentSaid := schedLent.proved
#print axioms schedLent_holds
end Go.Proofs.Ytoncignjcgjhhaa
