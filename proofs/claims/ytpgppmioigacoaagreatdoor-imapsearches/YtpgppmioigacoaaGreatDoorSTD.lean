/- Part of the claim: facts that its last text uses. No conditions. -/
import Derived.Test.YtpgppmioigacoaaGreatDoorSTB
import Derived.Test.YtpgppmioigacoaaGreatDoorSTC
set_option linter.all false
namespace Go.Proofs.YtpgppmioigacoaaGreatDoor.OwnTie
open Go Go.Proofs Go.Proofs.YtpgppmioigacoaaGreatDoor
set_option maxRecDepth 100000
theorem tie : Tryz.prog.laidByTextLater laidL [.data, .data, .data, .data] true := Program.laidByTextLater_by_one 34 8 65 tie_w tie_w' tie_r tie_k tie_g tie_n tie_1
theorem imapSearches_row_tie : Rows.imapSearchesRow.laidByTextAt .later Tryz.pinned [.data, .data, .data, .data, .pinned, .pinned] true :=
  OpenClaim.laidByTextAt_pinned rfl rfl tie rfl rfl rfl rfl (fun y hy _e => by
    simp only [Rows.imapSearchesRow, List.zip_cons_cons, List.zip_nil_right, List.mem_cons, List.mem_nil_iff, or_false] at hy
    rcases hy with rfl | rfl | rfl | rfl | rfl | rfl
    · cases _e
    · cases _e
    · cases _e
    · cases _e
    · exact ⟨pin_laid_unicode_CaseRanges, by kernel_rfl⟩
    · exact ⟨pin_laid_unicode_utf8_first, by kernel_rfl⟩) fits1
end Go.Proofs.YtpgppmioigacoaaGreatDoor.OwnTie
