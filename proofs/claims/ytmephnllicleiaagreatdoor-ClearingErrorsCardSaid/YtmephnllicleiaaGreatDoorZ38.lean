/- The executor's run of the law's examples, by the kernel. -/
import Derived.Test.YtmephnllicleiaaGreatDoorZ37

set_option linter.unusedSimpArgs false
set_option linter.unusedVariables false
namespace Go.Proofs.Ex
open Go.Proofs
noncomputable def envX : Env := ⟨fnT.find, ctr⟩
theorem awake_run : isT (callF envX 2000 7 [] ⟨.leaf, 0⟩) = true := by kernel_rfl
end Go.Proofs.Ex
