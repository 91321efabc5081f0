/- Part of the value machine, or of a walk by it: lemmas that the claim's last text uses. No conditions. -/
import Derived.Test.YtlafgccdobeinaaGreatDoorTImK
import Derived.KernelRfl
set_option linter.unusedVariables false
set_option linter.unusedSimpArgs false
set_option linter.unnecessarySimpa false
noncomputable section
namespace Go.Proofs.ImW
open Go Go.Proofs Go.Vm
set_option linter.unusedVariables false
set_option maxRecDepth 100000
theorem awake_run : isT (TryF6 [] (h0 TryG)) = true := by kernel_rfl
def TryF6c : Fun := constB true
theorem Tryc6c : CallOk Tryz.prog TryG 6 TryF6c := (isT_ok awake_run).elim fun h e => constB_ok Tryc6 e
end Go.Proofs.ImW
