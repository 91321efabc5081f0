/- Lemmas that the claim's last text uses. No conditions. -/
import Derived.Test.YtpgppmioigacoaaGreatDoorSAL
set_option linter.all false
set_option maxRecDepth 100000
noncomputable section
open Go Go.Proofs Go.Vm
namespace Go.Proofs.Ik
theorem aNV:fV (ja false 10)=true:=kR
theorem aNU:fV (ja false 11)=true:=kR
theorem aNT:fV (ja false 12)=true:=kR
theorem aNS:fV (ja false 13)=true:=kR
theorem aNR:fV (ja false 14)=true:=kR
theorem aNQ:fV (ja false 15)=true:=kR
theorem aNP:fV (ja false 16)=true:=kR
theorem aNO:fV (ja false 17)=true:=kR
theorem aNN:fV (ja false 18)=true:=kR
theorem aNM:fV (ja false 19)=true:=kR
end Go.Proofs.Ik
