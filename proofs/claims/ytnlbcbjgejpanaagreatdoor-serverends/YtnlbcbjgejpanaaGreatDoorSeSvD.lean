/- Part of the value machine, or of a walk by it: lemmas that the claim's last text uses. No conditions. -/
import Derived.Test.YtnlbcbjgejpanaaGreatDoorSeSvA
import Derived.Test.YtnlbcbjgejpanaaGreatDoorSeSvB
import Derived.Test.YtnlbcbjgejpanaaGreatDoorSeSvC
import Derived.Test.YtnlbcbjgejpanaaGreatDoorRows
import Derived.LaidByTextLater
import Derived.SevenTiedAt
set_option linter.unusedVariables false
set_option linter.unusedSimpArgs false
set_option linter.unnecessarySimpa false
namespace Go.Proofs.YtnlbcbjgejpanaaGreatDoor.OwnTie
open Go Go.Proofs Go.Proofs.YtnlbcbjgejpanaaGreatDoor
theorem tie : Tryz.prog.laidByTextLater laidL [.data, .data, .data, .data] true :=
  Program.laidByTextLater_by_run 400 8 tie_w tie_w' tie_r tie_k tie_g tie_n tie_d tie_1 tie_2 tie_p
theorem serverEnds_row_tie : Rows.serverEndsRow.laidByTextAt .later Tryz.pinned [.pinned, .data, .data, .data, .data, .pinned] true :=
  OpenClaim.laidByTextAt_pinned rfl rfl tie rfl rfl rfl rfl (fun y hy _e => by
    simp only [Rows.serverEndsRow, List.zip_cons_cons, List.zip_nil_right, List.mem_cons, List.mem_nil_iff, or_false] at hy
    rcases hy with rfl | rfl | rfl | rfl | rfl | rfl
    · exact ⟨pin_laid_unicode_utf8_first, by kernel_rfl⟩
    · cases _e
    · cases _e
    · cases _e
    · cases _e
    · exact ⟨pin_laid_unicode_CaseRanges, by kernel_rfl⟩) fits1
end Go.Proofs.YtnlbcbjgejpanaaGreatDoor.OwnTie
