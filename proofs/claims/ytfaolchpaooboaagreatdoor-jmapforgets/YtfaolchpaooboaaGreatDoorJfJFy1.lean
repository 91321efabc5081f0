/- Part of the value machine, or of a walk by it: lemmas that the claim's last text uses. No conditions. -/
import Derived.Test.YtfaolchpaooboaaGreatDoorJfJmX
import Derived.KernelRfl
set_option linter.unusedVariables false
set_option linter.unusedSimpArgs false
set_option linter.unnecessarySimpa false
noncomputable section
namespace Go.Proofs.Jm
open Go Go.Proofs Go.Vm
set_option linter.unusedVariables false
set_option linter.unusedSimpArgs false
set_option maxRecDepth 100000
set_option maxHeartbeats 4000000
theorem Fc_4_t (x : V) : isT (outR Tryz.prog [.tmp 4] (FT 4 true x)) = true := by kernel_rfl
theorem Fc_4_f (x : V) : isT (outR Tryz.prog [.tmp 4] (FT 4 false x)) = true := by kernel_rfl
theorem Fc_5_t (x : V) : isT (outR Tryz.prog [.tmp 4] (FT 5 true x)) = true := by kernel_rfl
theorem Fc_5_f (x : V) : isT (outR Tryz.prog [.tmp 4] (FT 5 false x)) = true := by kernel_rfl
theorem Fc_6_t (x : V) : isT (outR Tryz.prog [.tmp 4] (FT 6 true x)) = true := by kernel_rfl
theorem Fc_6_f (x : V) : isT (outR Tryz.prog [.tmp 4] (FT 6 false x)) = true := by kernel_rfl
theorem Fc_7_t (x : V) : isT (outR Tryz.prog [.tmp 4] (FT 7 true x)) = true := by kernel_rfl
theorem Fc_7_f (x : V) : isT (outR Tryz.prog [.tmp 4] (FT 7 false x)) = true := by kernel_rfl
end Go.Proofs.Jm
