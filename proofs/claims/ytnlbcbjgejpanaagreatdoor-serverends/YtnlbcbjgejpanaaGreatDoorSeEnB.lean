/- Part of the value machine, or of a walk by it: lemmas that the claim's last text uses. No conditions. -/
import Derived.Test.YtnlbcbjgejpanaaGreatDoorSeEnA
set_option linter.unusedVariables false
set_option linter.unusedSimpArgs false
set_option linter.unnecessarySimpa false
noncomputable section
namespace Go.Proofs.ImE
open Go Go.Proofs Go.Vm
set_option linter.unusedVariables false
set_option maxRecDepth 100000
set_option maxHeartbeats 4000000
theorem awake_run : isT (TryF5 [] (h0 TryG)) = true := by kernel_rfl
def TryF5c : Fun := constB true
theorem Tryc5c : CallOk Tryz.prog TryG 5 TryF5c := (isT_ok awake_run).elim fun h e => constB_ok Tryc5 e
end Go.Proofs.ImE
