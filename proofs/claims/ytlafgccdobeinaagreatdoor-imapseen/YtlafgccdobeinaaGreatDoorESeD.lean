/- Part of the value machine, or of a walk by it: lemmas that the claim's last text uses. No conditions. -/
import Derived.Test.YtlafgccdobeinaaGreatDoorESeB
set_option linter.unusedVariables false
set_option linter.unusedSimpArgs false
set_option linter.unnecessarySimpa false
noncomputable section
namespace Go.Proofs.ImS
open Go Go.Proofs Go.Vm
set_option linter.unusedVariables false
set_option maxRecDepth 100000
set_option maxHeartbeats 4000000
theorem seen_2_tf (x : V) : isT (outR Tryz.prog [.tmp 4] (seenT 2 true false x)) = true := by kernel_rfl
theorem seen_2_ft (x : V) : isT (outR Tryz.prog [.tmp 4] (seenT 2 false true x)) = true := by kernel_rfl
theorem seen_2_ff (x : V) : isT (outR Tryz.prog [.tmp 4] (seenT 2 false false x)) = true := by kernel_rfl
theorem seen_3_tt (x : V) : isT (outR Tryz.prog [.tmp 4] (seenT 3 true true x)) = true := by kernel_rfl
theorem seen_3_tf (x : V) : isT (outR Tryz.prog [.tmp 4] (seenT 3 true false x)) = true := by kernel_rfl
theorem seen_3_ft (x : V) : isT (outR Tryz.prog [.tmp 4] (seenT 3 false true x)) = true := by kernel_rfl
theorem seen_3_ff (x : V) : isT (outR Tryz.prog [.tmp 4] (seenT 3 false false x)) = true := by kernel_rfl
theorem seen_4_tt (x : V) : isT (outR Tryz.prog [.tmp 4] (seenT 4 true true x)) = true := by kernel_rfl
theorem seen_4_tf (x : V) : isT (outR Tryz.prog [.tmp 4] (seenT 4 true false x)) = true := by kernel_rfl
end Go.Proofs.ImS
