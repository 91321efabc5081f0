/- Part of the claim: facts that its last text uses. No conditions. -/
import Derived.Test.YtpgppmioigacoaaGreatDoorRows
import Derived.LaidByTextLater
import Derived.SevenTiedAt
import Derived.Test.YtpgppmioigacoaaGreatDoorSImapSearchesK
import Derived.JoinedOf
set_option linter.all false
namespace Go.Proofs.YtpgppmioigacoaaGreatDoor.ImapSearchesZ
open Go Go.Proofs Go.Proofs.YtpgppmioigacoaaGreatDoor
set_option maxRecDepth 100000
theorem inPlaceEq : (Rows.imapSearchesRow.inPlace == Tryz.prog.inPlace 6) = true := by
  unfold Program.inPlace
  rw [cloEq]
  kernel_rfl
theorem unfollowedEq : Tryz.prog.unfollowed 6 = true := by
  unfold Program.unfollowed
  rw [cloEq]
  kernel_rfl
theorem recursesEq : Tryz.prog.recurses 6 = true := by
  unfold Program.recurses
  rw [unfollowedEq]
  rfl
theorem varsEq : (Rows.imapSearchesRow.named == Tryz.prog.varsNamed 6) = true := by
  unfold Program.varsNamed
  rw [cloEq]
  kernel_rfl
end Go.Proofs.YtpgppmioigacoaaGreatDoor.ImapSearchesZ
