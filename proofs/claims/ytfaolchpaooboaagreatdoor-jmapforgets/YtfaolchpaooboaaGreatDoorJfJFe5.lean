/- Part of the value machine, or of a walk by it: lemmas that the claim's last text uses. No conditions. -/
import Derived.Test.YtfaolchpaooboaaGreatDoorJfJmV
import Derived.KernelRfl
set_option linter.unusedVariables false
set_option linter.unusedSimpArgs false
set_option linter.unnecessarySimpa false
noncomputable section
namespace Go.Proofs.Jm
open Go Go.Proofs Go.Vm
set_option linter.unusedVariables false
set_option linter.unusedSimpArgs false
set_option maxRecDepth 100000
set_option maxHeartbeats 4000000
theorem ent_f9t : tidyB (TryF7 zs_f9t g_f9t) g_f9t r_f9t 172 l_f9t L_f9t = true := by kernel_rfl
theorem ent_f9f : tidyB (TryF7 zs_f9f g_f9f) g_f9f r_f9f 156 l_f9f L_f9f = true := by kernel_rfl
theorem ent_f10t : tidyB (TryF7 zs_f10t g_f10t) g_f10t r_f10t 184 l_f10t L_f10t = true := by kernel_rfl
theorem ent_f10f : tidyB (TryF7 zs_f10f g_f10f) g_f10f r_f10f 168 l_f10f L_f10f = true := by kernel_rfl
theorem ent_f11t : tidyB (TryF7 zs_f11t g_f11t) g_f11t r_f11t 196 l_f11t L_f11t = true := by kernel_rfl
theorem ent_f11f : tidyB (TryF7 zs_f11f g_f11f) g_f11f r_f11f 180 l_f11f L_f11f = true := by kernel_rfl
end Go.Proofs.Jm
