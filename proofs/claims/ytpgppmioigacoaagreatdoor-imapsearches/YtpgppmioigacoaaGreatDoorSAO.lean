/- Lemmas. No conditions. -/
import Derived.Test.YtpgppmioigacoaaGreatDoorSAM
set_option linter.all false
set_option maxRecDepth 100000
noncomputable section
open Go Go.Proofs Go.Vm
namespace Go.Proofs.Ik
def aQR:amA (aN3 10)=true:=kR
def aQQ:amA (aN3 11)=true:=kR
def aQP:amA (aN3 12)=true:=kR
def aQO:amA (aN3 13)=true:=kR
def aQN:amA (aN3 14)=true:=kR
def aQM:amA (aN3 15)=true:=kR
def aQL:amA (aN3 16)=true:=kR
def aQK:amA (aN3 17)=true:=kR
def aQJ:amA (aN3 18)=true:=kR
def aQI:amA (aN3 19)=true:=kR
end Go.Proofs.Ik
