/- Part of the value machine, or of a walk by it: lemmas that the claim's last text uses. No conditions. -/
import Derived.Test.YtfaolchpaooboaaGreatDoorJfJmX
import Derived.KernelRfl
set_option linter.unusedVariables false
set_option linter.unusedSimpArgs false
set_option linter.unnecessarySimpa false
noncomputable section
namespace Go.Proofs.Jm
open Go Go.Proofs Go.Vm
set_option linter.unusedVariables false
set_option linter.unusedSimpArgs false
set_option maxRecDepth 100000
set_option maxHeartbeats 4000000
theorem Fc_8_t (x : V) : isT (outR Tryz.prog [.tmp 4] (FT 8 true x)) = true := by kernel_rfl
theorem Fc_8_f (x : V) : isT (outR Tryz.prog [.tmp 4] (FT 8 false x)) = true := by kernel_rfl
theorem Fc_9_t (x : V) : isT (outR Tryz.prog [.tmp 4] (FT 9 true x)) = true := by kernel_rfl
theorem Fc_9_f (x : V) : isT (outR Tryz.prog [.tmp 4] (FT 9 false x)) = true := by kernel_rfl
theorem Fc_10_t (x : V) : isT (outR Tryz.prog [.tmp 4] (FT 10 true x)) = true := by kernel_rfl
theorem Fc_10_f (x : V) : isT (outR Tryz.prog [.tmp 4] (FT 10 false x)) = true := by kernel_rfl
theorem Fc_11_t (x : V) : isT (outR Tryz.prog [.tmp 4] (FT 11 true x)) = true := by kernel_rfl
theorem Fc_11_f (x : V) : isT (outR Tryz.prog [.tmp 4] (FT 11 false x)) = true := by kernel_rfl
end Go.Proofs.Jm
