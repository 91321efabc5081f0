/- Part of the claim: facts that its last text uses. No conditions. -/
import Derived.Test.YtpgppmioigacoaaGreatDoorSTA
set_option linter.all false
namespace Go.Proofs.YtpgppmioigacoaaGreatDoor.OwnTie
open Go Go.Proofs Go.Proofs.YtpgppmioigacoaaGreatDoor
set_option maxRecDepth 100000
theorem tie_1 : ∀ os tape, doorLeaves Tryz.prog 34 8 65 laidL os tape = some (laidL.filter fun x => x.2.handleName?.isNone, (funcsListed laidL).map (·.2.funcsOut)) := fun _ _ => by kernel_rfl
end Go.Proofs.YtpgppmioigacoaaGreatDoor.OwnTie
