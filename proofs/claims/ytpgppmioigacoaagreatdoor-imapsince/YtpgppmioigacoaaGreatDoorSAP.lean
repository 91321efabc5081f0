/- Lemmas that the claim's last text uses. No conditions. -/
import Derived.Test.YtpgppmioigacoaaGreatDoorSAL
set_option linter.all false
set_option maxRecDepth 100000
noncomputable section
open Go Go.Proofs Go.Vm
namespace Go.Proofs.Ik
theorem aNL:fV (ja true 10)=true:=kR
theorem aNK:fV (ja true 11)=true:=kR
theorem aNJ:fV (ja true 12)=true:=kR
theorem aNI:fV (ja true 13)=true:=kR
theorem aNH:fV (ja true 14)=true:=kR
theorem aNG:fV (ja true 15)=true:=kR
theorem aNF:fV (ja true 16)=true:=kR
theorem aNE:fV (ja true 17)=true:=kR
theorem aND:fV (ja true 18)=true:=kR
theorem aNC:fV (ja true 19)=true:=kR
end Go.Proofs.Ik
