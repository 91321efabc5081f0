/- Part of the value machine, or of a walk by it: lemmas that the claim's last text uses. No conditions. -/
import Derived.Test.YtnlbcbjgejpanaaGreatDoorRows
import Derived.LaidByTextLater
import Derived.SevenTiedAt
import Derived.Test.YtnlbcbjgejpanaaGreatDoorStServerTicksK
import Derived.JoinedOf
set_option linter.unusedVariables false
set_option linter.unusedSimpArgs false
set_option linter.unnecessarySimpa false
namespace Go.Proofs.YtnlbcbjgejpanaaGreatDoor.ServerTicksZ
open Go Go.Proofs Go.Proofs.YtnlbcbjgejpanaaGreatDoor
set_option maxRecDepth 100000
theorem inPlaceEq : (Rows.serverTicksRow.inPlace == Tryz.prog.inPlace 3) = true := by
  unfold Program.inPlace
  rw [cloEq]
  kernel_rfl
theorem unfollowedEq : Tryz.prog.unfollowed 3 = true := by
  unfold Program.unfollowed
  rw [cloEq]
  kernel_rfl
theorem recursesEq : Tryz.prog.recurses 3 = true := by
  unfold Program.recurses
  rw [unfollowedEq]
  rfl
theorem varsEq : (Rows.serverTicksRow.named == Tryz.prog.varsNamed 3) = true := by
  unfold Program.varsNamed
  rw [cloEq]
  kernel_rfl
end Go.Proofs.YtnlbcbjgejpanaaGreatDoor.ServerTicksZ
