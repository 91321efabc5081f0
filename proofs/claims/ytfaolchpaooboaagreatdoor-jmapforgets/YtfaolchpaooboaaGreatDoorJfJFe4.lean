/- Part of the value machine, or of a walk by it: lemmas that the claim's last text uses. No conditions. -/
import Derived.Test.YtfaolchpaooboaaGreatDoorJfJmV
import Derived.KernelRfl
set_option linter.unusedVariables false
set_option linter.unusedSimpArgs false
set_option linter.unnecessarySimpa false
noncomputable section
namespace Go.Proofs.Jm
open Go Go.Proofs Go.Vm
set_option linter.unusedVariables false
set_option linter.unusedSimpArgs false
set_option maxRecDepth 100000
set_option maxHeartbeats 4000000
theorem ent_f6t : tidyB (TryF7 zs_f6t g_f6t) g_f6t r_f6t 136 l_f6t L_f6t = true := by kernel_rfl
theorem ent_f6f : tidyB (TryF7 zs_f6f g_f6f) g_f6f r_f6f 121 l_f6f L_f6f = true := by kernel_rfl
theorem ent_f7t : tidyB (TryF7 zs_f7t g_f7t) g_f7t r_f7t 148 l_f7t L_f7t = true := by kernel_rfl
theorem ent_f7f : tidyB (TryF7 zs_f7f g_f7f) g_f7f r_f7f 133 l_f7f L_f7f = true := by kernel_rfl
theorem ent_f8t : tidyB (TryF7 zs_f8t g_f8t) g_f8t r_f8t 160 l_f8t L_f8t = true := by kernel_rfl
theorem ent_f8f : tidyB (TryF7 zs_f8f g_f8f) g_f8f r_f8f 144 l_f8f L_f8f = true := by kernel_rfl
end Go.Proofs.Jm
