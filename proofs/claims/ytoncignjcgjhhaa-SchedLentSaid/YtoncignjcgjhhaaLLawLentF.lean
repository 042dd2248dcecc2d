/- The closed facts of the row of SchedLent, one by one. No condition. -/
import Derived.Test.YtoncignjcgjhhaaRows
import Derived.ProofKit
import Derived.JoinedOf
set_option linter.unusedVariables false
set_option linter.unusedSimpArgs false
namespace Go.Proofs.Ytoncignjcgjhhaa.schedLent
set_option maxHeartbeats 8000000 in
theorem facts : joinedFacts Try.checked.prog 21 Try.f21 Rows.schedLentSpec Rows.schedLentRow = true := by
 unfold joinedFacts
 repeat' (with_reducible refine Bool.and_eq_true_iff.2 ⟨?_, ?_⟩)
 all_goals as_aux_lemma => kernel_rfl
end Go.Proofs.Ytoncignjcgjhhaa.schedLent
