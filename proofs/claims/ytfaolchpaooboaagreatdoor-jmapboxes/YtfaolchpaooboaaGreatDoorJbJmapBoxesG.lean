/- Part of the claim: facts that its last text uses. No conditions. -/
import Derived.Test.YtfaolchpaooboaaGreatDoorTie
import Derived.Test.YtfaolchpaooboaaGreatDoorJbJmapBoxesK
import Derived.JoinedOf
set_option linter.all false
namespace Go.Proofs.YtfaolchpaooboaaGreatDoor.JmapBoxesZ
open Go Go.Proofs Go.Proofs.YtfaolchpaooboaaGreatDoor
set_option maxRecDepth 100000
theorem inPlaceEq : (Rows.jmapBoxesRow.inPlace == Tryz.prog.inPlace 4) = true := by
  unfold Program.inPlace
  rw [cloEq]
  kernel_rfl
theorem unfollowedEq : Tryz.prog.unfollowed 4 = true := by
  unfold Program.unfollowed
  rw [cloEq]
  kernel_rfl
theorem recursesEq : Tryz.prog.recurses 4 = true := by
  unfold Program.recurses
  rw [unfollowedEq]
  rfl
theorem varsEq : (Rows.jmapBoxesRow.named == Tryz.prog.varsNamed 4) = true := by
  unfold Program.varsNamed
  rw [cloEq]
  kernel_rfl
end Go.Proofs.YtfaolchpaooboaaGreatDoor.JmapBoxesZ
