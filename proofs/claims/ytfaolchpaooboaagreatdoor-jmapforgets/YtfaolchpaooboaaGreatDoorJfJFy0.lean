/- Part of the value machine, or of a walk by it: lemmas that the claim's last text uses. No conditions. -/
import Derived.Test.YtfaolchpaooboaaGreatDoorJfJmX
import Derived.KernelRfl
set_option linter.unusedVariables false
set_option linter.unusedSimpArgs false
set_option linter.unnecessarySimpa false
noncomputable section
namespace Go.Proofs.Jm
open Go Go.Proofs Go.Vm
set_option linter.unusedVariables false
set_option linter.unusedSimpArgs false
set_option maxRecDepth 100000
set_option maxHeartbeats 4000000
theorem Fc_0_t (x : V) : isT (outR Tryz.prog [.tmp 4] (FT 0 true x)) = true := by kernel_rfl
theorem Fc_0_f (x : V) : isT (outR Tryz.prog [.tmp 4] (FT 0 false x)) = true := by kernel_rfl
theorem Fc_1_t (x : V) : isT (outR Tryz.prog [.tmp 4] (FT 1 true x)) = true := by kernel_rfl
theorem Fc_1_f (x : V) : isT (outR Tryz.prog [.tmp 4] (FT 1 false x)) = true := by kernel_rfl
theorem Fc_2_t (x : V) : isT (outR Tryz.prog [.tmp 4] (FT 2 true x)) = true := by kernel_rfl
theorem Fc_2_f (x : V) : isT (outR Tryz.prog [.tmp 4] (FT 2 false x)) = true := by kernel_rfl
theorem Fc_3_t (x : V) : isT (outR Tryz.prog [.tmp 4] (FT 3 true x)) = true := by kernel_rfl
theorem Fc_3_f (x : V) : isT (outR Tryz.prog [.tmp 4] (FT 3 false x)) = true := by kernel_rfl
end Go.Proofs.Jm
