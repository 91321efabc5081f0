/- Part of the value machine, or of a walk by it: lemmas that the claim's last text uses. No conditions. -/
import Derived.Test.YtfaolchpaooboaaGreatDoorJfJmV
import Derived.KernelRfl
set_option linter.unusedVariables false
set_option linter.unusedSimpArgs false
set_option linter.unnecessarySimpa false
noncomputable section
namespace Go.Proofs.Jm
open Go Go.Proofs Go.Vm
set_option linter.unusedVariables false
set_option linter.unusedSimpArgs false
set_option maxRecDepth 100000
set_option maxHeartbeats 4000000
theorem ent_q6 : tidyB (TryF7 zs_q6 g_q6) g_q6 r_q6 108 l_q6 L_q6 = true := by kernel_rfl
theorem ent_q7 : tidyB (TryF7 zs_q7 g_q7) g_q7 r_q7 120 l_q7 L_q7 = true := by kernel_rfl
theorem ent_q8 : tidyB (TryF7 zs_q8 g_q8) g_q8 r_q8 132 l_q8 L_q8 = true := by kernel_rfl
theorem ent_q9 : tidyB (TryF7 zs_q9 g_q9) g_q9 r_q9 144 l_q9 L_q9 = true := by kernel_rfl
theorem ent_q10 : tidyB (TryF7 zs_q10 g_q10) g_q10 r_q10 156 l_q10 L_q10 = true := by kernel_rfl
theorem ent_q11 : tidyB (TryF7 zs_q11 g_q11) g_q11 r_q11 168 l_q11 L_q11 = true := by kernel_rfl
end Go.Proofs.Jm
