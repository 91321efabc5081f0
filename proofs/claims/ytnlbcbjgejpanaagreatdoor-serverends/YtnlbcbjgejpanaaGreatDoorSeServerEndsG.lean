/- Part of the value machine, or of a walk by it: lemmas that the claim's last text uses. No conditions. -/
import Derived.Test.YtnlbcbjgejpanaaGreatDoorRows
import Derived.LaidByTextLater
import Derived.SevenTiedAt
import Derived.Test.YtnlbcbjgejpanaaGreatDoorSeServerEndsK
import Derived.JoinedOf
set_option linter.unusedVariables false
set_option linter.unusedSimpArgs false
set_option linter.unnecessarySimpa false
namespace Go.Proofs.YtnlbcbjgejpanaaGreatDoor.ServerEndsZ
open Go Go.Proofs Go.Proofs.YtnlbcbjgejpanaaGreatDoor
set_option maxRecDepth 100000
theorem inPlaceEq : (Rows.serverEndsRow.inPlace == Tryz.prog.inPlace 4) = true := by
  unfold Program.inPlace
  rw [cloEq]
  kernel_rfl
theorem unfollowedEq : Tryz.prog.unfollowed 4 = true := by
  unfold Program.unfollowed
  rw [cloEq]
  kernel_rfl
theorem recursesEq : Tryz.prog.recurses 4 = true := by
  unfold Program.recurses
  rw [unfollowedEq]
  rfl
theorem varsEq : (Rows.serverEndsRow.named == Tryz.prog.varsNamed 4) = true := by
  unfold Program.varsNamed
  rw [cloEq]
  kernel_rfl
end Go.Proofs.YtnlbcbjgejpanaaGreatDoor.ServerEndsZ
