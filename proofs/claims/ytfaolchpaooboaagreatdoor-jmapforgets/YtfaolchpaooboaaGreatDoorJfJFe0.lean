/- Part of the value machine, or of a walk by it: lemmas that the claim's last text uses. No conditions. -/
import Derived.Test.YtfaolchpaooboaaGreatDoorJfJmV
import Derived.KernelRfl
set_option linter.unusedVariables false
set_option linter.unusedSimpArgs false
set_option linter.unnecessarySimpa false
noncomputable section
namespace Go.Proofs.Jm
open Go Go.Proofs Go.Vm
set_option linter.unusedVariables false
set_option linter.unusedSimpArgs false
set_option maxRecDepth 100000
set_option maxHeartbeats 4000000
theorem ent_q0 : tidyB (TryF7 zs_q0 g_q0) g_q0 r_q0 31 l_q0 L_q0 = true := by kernel_rfl
theorem ent_q1 : tidyB (TryF7 zs_q1 g_q1) g_q1 r_q1 48 l_q1 L_q1 = true := by kernel_rfl
theorem ent_q2 : tidyB (TryF7 zs_q2 g_q2) g_q2 r_q2 60 l_q2 L_q2 = true := by kernel_rfl
theorem ent_q3 : tidyB (TryF7 zs_q3 g_q3) g_q3 r_q3 72 l_q3 L_q3 = true := by kernel_rfl
theorem ent_q4 : tidyB (TryF7 zs_q4 g_q4) g_q4 r_q4 84 l_q4 L_q4 = true := by kernel_rfl
theorem ent_q5 : tidyB (TryF7 zs_q5 g_q5) g_q5 r_q5 96 l_q5 L_q5 = true := by kernel_rfl
end Go.Proofs.Jm
