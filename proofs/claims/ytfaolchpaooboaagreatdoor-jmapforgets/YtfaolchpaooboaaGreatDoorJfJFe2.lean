/- Part of the value machine, or of a walk by it: lemmas that the claim's last text uses. No conditions. -/
import Derived.Test.YtfaolchpaooboaaGreatDoorJfJmV
import Derived.KernelRfl
set_option linter.unusedVariables false
set_option linter.unusedSimpArgs false
set_option linter.unnecessarySimpa false
noncomputable section
namespace Go.Proofs.Jm
open Go Go.Proofs Go.Vm
set_option linter.unusedVariables false
set_option linter.unusedSimpArgs false
set_option maxRecDepth 100000
set_option maxHeartbeats 4000000
theorem ent_f0t : tidyB (TryF7 zs_f0t g_f0t) g_f0t r_f0t 64 l_f0t L_f0t = true := by kernel_rfl
theorem ent_f0f : tidyB (TryF7 zs_f0f g_f0f) g_f0f r_f0f 49 l_f0f L_f0f = true := by kernel_rfl
theorem ent_f1t : tidyB (TryF7 zs_f1t g_f1t) g_f1t r_f1t 76 l_f1t L_f1t = true := by kernel_rfl
theorem ent_f1f : tidyB (TryF7 zs_f1f g_f1f) g_f1f r_f1f 61 l_f1f L_f1f = true := by kernel_rfl
theorem ent_f2t : tidyB (TryF7 zs_f2t g_f2t) g_f2t r_f2t 88 l_f2t L_f2t = true := by kernel_rfl
theorem ent_f2f : tidyB (TryF7 zs_f2f g_f2f) g_f2f r_f2f 73 l_f2f L_f2f = true := by kernel_rfl
end Go.Proofs.Jm
