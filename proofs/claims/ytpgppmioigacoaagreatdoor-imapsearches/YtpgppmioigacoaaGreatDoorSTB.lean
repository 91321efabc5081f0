/- Part of the claim: facts that its last text uses. No conditions. -/
import Derived.Test.YtpgppmioigacoaaGreatDoorSTA
set_option linter.all false
namespace Go.Proofs.YtpgppmioigacoaaGreatDoor.OwnTie
open Go Go.Proofs Go.Proofs.YtpgppmioigacoaaGreatDoor
set_option maxRecDepth 100000
theorem tie_w : Tryz.prog.worded (varsWordLater true) = true := by kernel_rfl
theorem tie_w' : Tryz.prog.worded (varsWordLater !true) = false := by kernel_rfl
theorem tie_r : Tryz.prog.worded rootWordLater = true := by kernel_rfl
theorem tie_k : laidL.map (fun x => Tryz.prog.kindOfLater x.1) = [LaidKind.data, LaidKind.data, LaidKind.data, LaidKind.data].map some := by kernel_rfl
theorem tie_g : (Tryz.prog.funcNamed "gosem.cut.vars").isSome = true := by kernel_rfl
theorem tie_n : varsNamedLaterB Tryz.prog (varsId Tryz.prog) laidL = true := by kernel_rfl
end Go.Proofs.YtpgppmioigacoaaGreatDoor.OwnTie
