/- Part of the value machine, or of a walk by it: lemmas that the claim's last text uses. No conditions. -/
import Derived.Test.YtlafgccdobeinaaGreatDoorESeB
set_option linter.unusedVariables false
set_option linter.unusedSimpArgs false
set_option linter.unnecessarySimpa false
noncomputable section
namespace Go.Proofs.ImS
open Go Go.Proofs Go.Vm
set_option linter.unusedVariables false
set_option maxRecDepth 100000
set_option maxHeartbeats 4000000
theorem seen_6_ff (x : V) : isT (outR Tryz.prog [.tmp 4] (seenT 6 false false x)) = true := by kernel_rfl
theorem seen_7_tt (x : V) : isT (outR Tryz.prog [.tmp 4] (seenT 7 true true x)) = true := by kernel_rfl
theorem seen_7_tf (x : V) : isT (outR Tryz.prog [.tmp 4] (seenT 7 true false x)) = true := by kernel_rfl
theorem seen_7_ft (x : V) : isT (outR Tryz.prog [.tmp 4] (seenT 7 false true x)) = true := by kernel_rfl
theorem seen_7_ff (x : V) : isT (outR Tryz.prog [.tmp 4] (seenT 7 false false x)) = true := by kernel_rfl
theorem seen_8_tt (x : V) : isT (outR Tryz.prog [.tmp 4] (seenT 8 true true x)) = true := by kernel_rfl
theorem seen_8_tf (x : V) : isT (outR Tryz.prog [.tmp 4] (seenT 8 true false x)) = true := by kernel_rfl
theorem seen_8_ft (x : V) : isT (outR Tryz.prog [.tmp 4] (seenT 8 false true x)) = true := by kernel_rfl
theorem seen_8_ff (x : V) : isT (outR Tryz.prog [.tmp 4] (seenT 8 false false x)) = true := by kernel_rfl
end Go.Proofs.ImS
