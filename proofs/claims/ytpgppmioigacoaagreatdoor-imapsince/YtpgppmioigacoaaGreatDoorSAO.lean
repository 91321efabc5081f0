/- Lemmas that the claim's last text uses. No conditions. -/
import Derived.Test.YtpgppmioigacoaaGreatDoorSAL
set_option linter.all false
set_option maxRecDepth 100000
noncomputable section
open Go Go.Proofs Go.Vm
namespace Go.Proofs.Ik
theorem aOH:fV (ja true 0)=true:=kR
theorem aOG:fV (ja true 1)=true:=kR
theorem aOF:fV (ja true 2)=true:=kR
theorem aOE:fV (ja true 3)=true:=kR
theorem aOD:fV (ja true 4)=true:=kR
theorem aOC:fV (ja true 5)=true:=kR
theorem aOB:fV (ja true 6)=true:=kR
theorem aOA:fV (ja true 7)=true:=kR
theorem aOz:fV (ja true 8)=true:=kR
theorem aOy:fV (ja true 9)=true:=kR
end Go.Proofs.Ik
