/- Part of the value machine, or of a walk by it: lemmas that the claim's last text uses. No conditions. -/
import Derived.Test.YtfaolchpaooboaaGreatDoorJfJmV
import Derived.KernelRfl
set_option linter.unusedVariables false
set_option linter.unusedSimpArgs false
set_option linter.unnecessarySimpa false
noncomputable section
namespace Go.Proofs.Jm
open Go Go.Proofs Go.Vm
set_option linter.unusedVariables false
set_option linter.unusedSimpArgs false
set_option maxRecDepth 100000
set_option maxHeartbeats 4000000
theorem ent_f3t : tidyB (TryF7 zs_f3t g_f3t) g_f3t r_f3t 100 l_f3t L_f3t = true := by kernel_rfl
theorem ent_f3f : tidyB (TryF7 zs_f3f g_f3f) g_f3f r_f3f 85 l_f3f L_f3f = true := by kernel_rfl
theorem ent_f4t : tidyB (TryF7 zs_f4t g_f4t) g_f4t r_f4t 112 l_f4t L_f4t = true := by kernel_rfl
theorem ent_f4f : tidyB (TryF7 zs_f4f g_f4f) g_f4f r_f4f 97 l_f4f L_f4f = true := by kernel_rfl
theorem ent_f5t : tidyB (TryF7 zs_f5t g_f5t) g_f5t r_f5t 124 l_f5t L_f5t = true := by kernel_rfl
theorem ent_f5f : tidyB (TryF7 zs_f5f g_f5f) g_f5f r_f5f 109 l_f5f L_f5f = true := by kernel_rfl
end Go.Proofs.Jm
