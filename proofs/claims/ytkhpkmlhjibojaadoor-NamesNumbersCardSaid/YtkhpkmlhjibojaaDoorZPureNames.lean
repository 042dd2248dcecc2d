/- The numbers of the names, over the functions that the walk computes: all are as the document says. No condition. -/
import Derived.Test.YtkhpkmlhjibojaaDoorZGA
set_option linter.unusedVariables false
set_option linter.unusedSimpArgs false
namespace Go.Proofs.YtkhpkmlhjibojaaDoor.D
open Go.Proofs.YtkhpkmlhjibojaaDoor.Q
theorem names : tenorlaw0_NamesNumbers.f 200 = some true := by decide +kernel
end Go.Proofs.YtkhpkmlhjibojaaDoor.D
