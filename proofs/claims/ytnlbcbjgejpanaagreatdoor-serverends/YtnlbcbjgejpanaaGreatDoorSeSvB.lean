/- Part of the value machine, or of a walk by it: lemmas that the claim's last text uses. No conditions. -/
import Derived.Test.YtnlbcbjgejpanaaGreatDoorRows
import Derived.LaidByTextLater
import Derived.SevenTiedAt
set_option linter.unusedVariables false
set_option linter.unusedSimpArgs false
set_option linter.unnecessarySimpa false
namespace Go.Proofs.YtnlbcbjgejpanaaGreatDoor.OwnTie
open Go Go.Proofs Go.Proofs.YtnlbcbjgejpanaaGreatDoor
abbrev laidL' : List (String × DataW Unit) := [("unicode/utf8.acceptRanges", Rows.laid_unicode_utf8_acceptRanges), ("internal/strconv.uint64pow10", Rows.laid_internal_strconv_uint64pow10), ("math/bits.deBruijn32tab", Rows.laid_math_bits_deBruijn32tab), ("math/bits.deBruijn64tab", Rows.laid_math_bits_deBruijn64tab)]
theorem tie_w : Tryz.prog.worded (varsWordLater true) = true := by kernel_rfl
theorem tie_w' : Tryz.prog.worded (varsWordLater !true) = false := by kernel_rfl
theorem tie_r : Tryz.prog.worded rootWordLater = true := by kernel_rfl
theorem tie_k : laidL'.map (fun x => Tryz.prog.kindOfLater x.1) = [LaidKind.data, .data, .data, .data].map some := by kernel_rfl
theorem tie_g : (Tryz.prog.funcNamed "gosem.cut.vars").isSome = true := by kernel_rfl
theorem tie_n : varsNamedLaterB Tryz.prog (varsId Tryz.prog) laidL' = true := by kernel_rfl
end Go.Proofs.YtnlbcbjgejpanaaGreatDoor.OwnTie
