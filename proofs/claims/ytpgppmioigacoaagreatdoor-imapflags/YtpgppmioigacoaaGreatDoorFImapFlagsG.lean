/- Part of the claim: facts that its last text uses. No conditions. -/
import Derived.Test.YtpgppmioigacoaaGreatDoorRows
import Derived.LaidByTextLater
import Derived.SevenTiedAt
import Derived.Test.YtpgppmioigacoaaGreatDoorFImapFlagsK
import Derived.JoinedOf
set_option linter.all false
namespace Go.Proofs.YtpgppmioigacoaaGreatDoor.ImapFlagsZ
open Go Go.Proofs Go.Proofs.YtpgppmioigacoaaGreatDoor
set_option maxRecDepth 100000
theorem inPlaceEq : (Rows.imapFlagsRow.inPlace == Tryz.prog.inPlace 5) = true := by
  unfold Program.inPlace
  rw [cloEq]
  kernel_rfl
theorem unfollowedEq : Tryz.prog.unfollowed 5 = true := by
  unfold Program.unfollowed
  rw [cloEq]
  kernel_rfl
theorem recursesEq : Tryz.prog.recurses 5 = true := by
  unfold Program.recurses
  rw [unfollowedEq]
  rfl
theorem varsEq : (Rows.imapFlagsRow.named == Tryz.prog.varsNamed 5) = true := by
  unfold Program.varsNamed
  rw [cloEq]
  kernel_rfl
end Go.Proofs.YtpgppmioigacoaaGreatDoor.ImapFlagsZ
