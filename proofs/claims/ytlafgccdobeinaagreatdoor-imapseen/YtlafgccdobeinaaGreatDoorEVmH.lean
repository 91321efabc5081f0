/- Part of the value machine, or of a walk by it: lemmas that the claim's last text uses. No conditions. -/
import Derived.Test.YtlafgccdobeinaaGreatDoorEVmG
import Derived.Laws.LoneSync
import Derived.Recover
set_option linter.unusedVariables false
set_option linter.unusedSimpArgs false
set_option linter.unnecessarySimpa false
namespace Go.Vm
noncomputable section
variable {P : Program} {G : Nat}
def levels (base : FuncId → Option Fun) (st : (FuncId → Option Fun) → FuncId → Option Fun) : Nat → FuncId → Option Fun
  | 0 => base
  | n + 1 => st (levels base st n)
end
end Go.Vm
