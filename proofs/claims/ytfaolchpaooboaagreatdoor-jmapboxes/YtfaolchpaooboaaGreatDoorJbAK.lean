/- Part of the claim: facts that its last text uses. No conditions. -/
import Derived.Test.YtfaolchpaooboaaGreatDoorJbAE
set_option linter.all false
namespace Go.Vm
noncomputable section
variable{P:Program}{G:Nat}
end
end Go.Vm
