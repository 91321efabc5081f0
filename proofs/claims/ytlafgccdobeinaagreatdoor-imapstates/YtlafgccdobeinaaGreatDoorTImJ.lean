/- Part of the value machine, or of a walk by it: lemmas that the claim's last text uses. No conditions. -/
import Derived.Test.YtlafgccdobeinaaGreatDoorTVmO
import Derived.Test.YtlafgccdobeinaaGreatDoorTImI
set_option linter.unusedVariables false
set_option linter.unusedSimpArgs false
set_option linter.unnecessarySimpa false
noncomputable section
namespace Go.Vm
variable {h h' : Hp}
end Go.Vm
namespace Go.Proofs.Im
open Go Go.Proofs Go.Vm Go.Ln
set_option linter.unusedVariables false
set_option maxRecDepth 100000
set_option linter.unusedSimpArgs false
end Go.Proofs.Im

noncomputable section
namespace Go.Ln
open Go Go.Vm Go.Proofs.Im
set_option linter.unusedVariables false
set_option linter.unusedSimpArgs false
def Lined (t : List Nat) : Prop := t = [] ∨ ∃ a, t = a ++ [10]
theorem Lined.app {t u : List Nat} (ht : Lined t) (hu : Lined u) : Lined (t ++ u) := by
  rcases hu with rfl | ⟨a, rfl⟩
  · rwa [List.append_nil]
  · exact .inr ⟨t ++ a, by simp⟩
end Go.Ln

noncomputable section
namespace Go.Vm
variable {h h' : Hp}
end Go.Vm
namespace Go.Proofs.Im
open Go Go.Proofs Go.Vm Go.Ln
set_option linter.unusedVariables false
set_option maxRecDepth 100000
set_option linter.unusedSimpArgs false
end Go.Proofs.Im
