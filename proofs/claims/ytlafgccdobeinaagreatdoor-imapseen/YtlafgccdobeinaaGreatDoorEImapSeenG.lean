/- Part of the value machine, or of a walk by it: lemmas that the claim's last text uses. No conditions. -/
import Derived.Test.YtlafgccdobeinaaGreatDoorTie
import Derived.Test.YtlafgccdobeinaaGreatDoorEImapSeenK
import Derived.JoinedOf
set_option linter.unusedVariables false
set_option linter.unusedSimpArgs false
set_option linter.unnecessarySimpa false
namespace Go.Proofs.YtlafgccdobeinaaGreatDoor.ImapSeenZ
open Go Go.Proofs Go.Proofs.YtlafgccdobeinaaGreatDoor
set_option maxRecDepth 100000
theorem inPlaceEq : (Rows.imapSeenRow.inPlace == Tryz.prog.inPlace 5) = true := by
  unfold Program.inPlace
  rw [cloEq]
  kernel_rfl
theorem unfollowedEq : Tryz.prog.unfollowed 5 = true := by
  unfold Program.unfollowed
  rw [cloEq]
  kernel_rfl
theorem recursesEq : Tryz.prog.recurses 5 = true := by
  unfold Program.recurses
  rw [unfollowedEq]
  rfl
theorem varsEq : (Rows.imapSeenRow.named == Tryz.prog.varsNamed 5) = true := by
  unfold Program.varsNamed
  rw [cloEq]
  kernel_rfl
end Go.Proofs.YtlafgccdobeinaaGreatDoor.ImapSeenZ
