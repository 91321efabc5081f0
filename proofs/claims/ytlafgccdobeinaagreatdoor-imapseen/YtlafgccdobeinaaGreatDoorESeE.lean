/- Part of the value machine, or of a walk by it: lemmas that the claim's last text uses. No conditions. -/
import Derived.Test.YtlafgccdobeinaaGreatDoorESeB
set_option linter.unusedVariables false
set_option linter.unusedSimpArgs false
set_option linter.unnecessarySimpa false
noncomputable section
namespace Go.Proofs.ImS
open Go Go.Proofs Go.Vm
set_option linter.unusedVariables false
set_option maxRecDepth 100000
set_option maxHeartbeats 4000000
theorem seen_4_ft (x : V) : isT (outR Tryz.prog [.tmp 4] (seenT 4 false true x)) = true := by kernel_rfl
theorem seen_4_ff (x : V) : isT (outR Tryz.prog [.tmp 4] (seenT 4 false false x)) = true := by kernel_rfl
theorem seen_5_tt (x : V) : isT (outR Tryz.prog [.tmp 4] (seenT 5 true true x)) = true := by kernel_rfl
theorem seen_5_tf (x : V) : isT (outR Tryz.prog [.tmp 4] (seenT 5 true false x)) = true := by kernel_rfl
theorem seen_5_ft (x : V) : isT (outR Tryz.prog [.tmp 4] (seenT 5 false true x)) = true := by kernel_rfl
theorem seen_5_ff (x : V) : isT (outR Tryz.prog [.tmp 4] (seenT 5 false false x)) = true := by kernel_rfl
theorem seen_6_tt (x : V) : isT (outR Tryz.prog [.tmp 4] (seenT 6 true true x)) = true := by kernel_rfl
theorem seen_6_tf (x : V) : isT (outR Tryz.prog [.tmp 4] (seenT 6 true false x)) = true := by kernel_rfl
theorem seen_6_ft (x : V) : isT (outR Tryz.prog [.tmp 4] (seenT 6 false true x)) = true := by kernel_rfl
end Go.Proofs.ImS
