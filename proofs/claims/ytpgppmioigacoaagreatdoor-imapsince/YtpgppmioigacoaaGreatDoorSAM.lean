/- Lemmas that the claim's last text uses. No conditions. -/
import Derived.Test.YtpgppmioigacoaaGreatDoorSAL
set_option linter.all false
set_option maxRecDepth 100000
noncomputable section
open Go Go.Proofs Go.Vm
namespace Go.Proofs.Ik
theorem aOR:fV (ja false 0)=true:=kR
theorem aOQ:fV (ja false 1)=true:=kR
theorem aOP:fV (ja false 2)=true:=kR
theorem aOO:fV (ja false 3)=true:=kR
theorem aON:fV (ja false 4)=true:=kR
theorem aOM:fV (ja false 5)=true:=kR
theorem aOL:fV (ja false 6)=true:=kR
theorem aOK:fV (ja false 7)=true:=kR
theorem aOJ:fV (ja false 8)=true:=kR
theorem aOI:fV (ja false 9)=true:=kR
end Go.Proofs.Ik
