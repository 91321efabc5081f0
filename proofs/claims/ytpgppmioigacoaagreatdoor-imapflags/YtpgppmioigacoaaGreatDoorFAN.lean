/- Lemmas. No conditions. -/
import Derived.Test.YtpgppmioigacoaaGreatDoorFAL
set_option linter.all false
set_option maxRecDepth 100000
noncomputable section
open Go Go.Proofs Go.Vm
namespace Go.Proofs.Ik
def aPI:bP (dJ true 0 5)=true:=kR
def aPz:bP (dJ true 1 5)=true:=kR
def aPq:bP (dJ true 2 5)=true:=kR
def aPh:bP (dJ true 3 5)=true:=kR
def aO8:bP (dJ true 4 5)=true:=kR
def aQr:bP (dJ false 0 5)=true:=kR
def aQi:bP (dJ false 1 5)=true:=kR
def aP9:bP (dJ false 2 5)=true:=kR
def aP0:bP (dJ false 3 5)=true:=kR
def aPR:bP (dJ false 4 5)=true:=kR
def aPH:bP (dJ true 0 6)=true:=kR
def aPy:bP (dJ true 1 6)=true:=kR
def aPp:bP (dJ true 2 6)=true:=kR
def aPg:bP (dJ true 3 6)=true:=kR
def aO7:bP (dJ true 4 6)=true:=kR
def aQq:bP (dJ false 0 6)=true:=kR
def aQh:bP (dJ false 1 6)=true:=kR
def aP8:bP (dJ false 2 6)=true:=kR
def aPZ:bP (dJ false 3 6)=true:=kR
def aPQ:bP (dJ false 4 6)=true:=kR
def aPG:bP (dJ true 0 7)=true:=kR
def aPx:bP (dJ true 1 7)=true:=kR
def aPo:bP (dJ true 2 7)=true:=kR
def aPf:bP (dJ true 3 7)=true:=kR
def aO6:bP (dJ true 4 7)=true:=kR
def aQp:bP (dJ false 0 7)=true:=kR
def aQg:bP (dJ false 1 7)=true:=kR
def aP7:bP (dJ false 2 7)=true:=kR
def aPY:bP (dJ false 3 7)=true:=kR
def aPP:bP (dJ false 4 7)=true:=kR
def aPF:bP (dJ true 0 8)=true:=kR
def aPw:bP (dJ true 1 8)=true:=kR
def aPn:bP (dJ true 2 8)=true:=kR
def aPe:bP (dJ true 3 8)=true:=kR
def aO5:bP (dJ true 4 8)=true:=kR
def aQo:bP (dJ false 0 8)=true:=kR
def aQf:bP (dJ false 1 8)=true:=kR
def aP6:bP (dJ false 2 8)=true:=kR
def aPX:bP (dJ false 3 8)=true:=kR
def aPO:bP (dJ false 4 8)=true:=kR
end Go.Proofs.Ik
