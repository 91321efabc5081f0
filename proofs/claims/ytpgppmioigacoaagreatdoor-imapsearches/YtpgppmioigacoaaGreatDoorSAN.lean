/- Lemmas. No conditions. -/
import Derived.Test.YtpgppmioigacoaaGreatDoorSAM
set_option linter.all false
set_option maxRecDepth 100000
noncomputable section
open Go Go.Proofs Go.Vm
namespace Go.Proofs.Ik
def aQ1:amA (aN3 0)=true:=kR
def aQ0:amA (aN3 1)=true:=kR
def aQZ:amA (aN3 2)=true:=kR
def aQY:amA (aN3 3)=true:=kR
def aQX:amA (aN3 4)=true:=kR
def aQW:amA (aN3 5)=true:=kR
def aQV:amA (aN3 6)=true:=kR
def aQU:amA (aN3 7)=true:=kR
def aQT:amA (aN3 8)=true:=kR
def aQS:amA (aN3 9)=true:=kR
end Go.Proofs.Ik
