/- The executor's run of the law's examples, by the kernel. -/
import Derived.Test.YthplmloambdmlaaGreatDoorZ28

set_option linter.unusedSimpArgs false
set_option linter.unusedVariables false
namespace Go.Proofs.Ex
open Go.Proofs
noncomputable def envY : Env := ⟨fnT.find, ctr⟩
theorem awake_run : isT (callF envY 2000 51 [] ⟨.leaf, 0⟩) = true := by kernel_rfl
end Go.Proofs.Ex
