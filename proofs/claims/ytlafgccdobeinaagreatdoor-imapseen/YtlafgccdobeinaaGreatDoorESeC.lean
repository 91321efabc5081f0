/- Part of the value machine, or of a walk by it: lemmas that the claim's last text uses. No conditions. -/
import Derived.Test.YtlafgccdobeinaaGreatDoorESeB
set_option linter.unusedVariables false
set_option linter.unusedSimpArgs false
set_option linter.unnecessarySimpa false
noncomputable section
namespace Go.Proofs.ImS
open Go Go.Proofs Go.Vm
set_option linter.unusedVariables false
set_option maxRecDepth 100000
set_option maxHeartbeats 4000000
theorem seen_0_tt (x : V) : isT (outR Tryz.prog [.tmp 4] (seenT 0 true true x)) = true := by kernel_rfl
theorem seen_0_tf (x : V) : isT (outR Tryz.prog [.tmp 4] (seenT 0 true false x)) = true := by kernel_rfl
theorem seen_0_ft (x : V) : isT (outR Tryz.prog [.tmp 4] (seenT 0 false true x)) = true := by kernel_rfl
theorem seen_0_ff (x : V) : isT (outR Tryz.prog [.tmp 4] (seenT 0 false false x)) = true := by kernel_rfl
theorem seen_1_tt (x : V) : isT (outR Tryz.prog [.tmp 4] (seenT 1 true true x)) = true := by kernel_rfl
theorem seen_1_tf (x : V) : isT (outR Tryz.prog [.tmp 4] (seenT 1 true false x)) = true := by kernel_rfl
theorem seen_1_ft (x : V) : isT (outR Tryz.prog [.tmp 4] (seenT 1 false true x)) = true := by kernel_rfl
theorem seen_1_ff (x : V) : isT (outR Tryz.prog [.tmp 4] (seenT 1 false false x)) = true := by kernel_rfl
theorem seen_2_tt (x : V) : isT (outR Tryz.prog [.tmp 4] (seenT 2 true true x)) = true := by kernel_rfl
end Go.Proofs.ImS
