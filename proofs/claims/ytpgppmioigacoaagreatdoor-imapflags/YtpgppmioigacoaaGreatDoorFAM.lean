/- Lemmas. No conditions. -/
import Derived.Test.YtpgppmioigacoaaGreatDoorFAL
set_option linter.all false
set_option maxRecDepth 100000
noncomputable section
open Go Go.Proofs Go.Vm
namespace Go.Proofs.Ik
def aPM:bP (dJ true 0 1)=true:=kR
def aPD:bP (dJ true 1 1)=true:=kR
def aPu:bP (dJ true 2 1)=true:=kR
def aPl:bP (dJ true 3 1)=true:=kR
def aPc:bP (dJ true 4 1)=true:=kR
def aQv:bP (dJ false 0 1)=true:=kR
def aQm:bP (dJ false 1 1)=true:=kR
def aQd:bP (dJ false 2 1)=true:=kR
def aP4:bP (dJ false 3 1)=true:=kR
def aPV:bP (dJ false 4 1)=true:=kR
def aPL:bP (dJ true 0 2)=true:=kR
def aPC:bP (dJ true 1 2)=true:=kR
def aPt:bP (dJ true 2 2)=true:=kR
def aPk:bP (dJ true 3 2)=true:=kR
def aPb:bP (dJ true 4 2)=true:=kR
def aQu:bP (dJ false 0 2)=true:=kR
def aQl:bP (dJ false 1 2)=true:=kR
def aQc:bP (dJ false 2 2)=true:=kR
def aP3:bP (dJ false 3 2)=true:=kR
def aPU:bP (dJ false 4 2)=true:=kR
def aPK:bP (dJ true 0 3)=true:=kR
def aPB:bP (dJ true 1 3)=true:=kR
def aPs:bP (dJ true 2 3)=true:=kR
def aPj:bP (dJ true 3 3)=true:=kR
def aPa:bP (dJ true 4 3)=true:=kR
def aQt:bP (dJ false 0 3)=true:=kR
def aQk:bP (dJ false 1 3)=true:=kR
def aQb:bP (dJ false 2 3)=true:=kR
def aP2:bP (dJ false 3 3)=true:=kR
def aPT:bP (dJ false 4 3)=true:=kR
def aPJ:bP (dJ true 0 4)=true:=kR
def aPA:bP (dJ true 1 4)=true:=kR
def aPr:bP (dJ true 2 4)=true:=kR
def aPi:bP (dJ true 3 4)=true:=kR
def aO9:bP (dJ true 4 4)=true:=kR
def aQs:bP (dJ false 0 4)=true:=kR
def aQj:bP (dJ false 1 4)=true:=kR
def aQa:bP (dJ false 2 4)=true:=kR
def aP1:bP (dJ false 3 4)=true:=kR
def aPS:bP (dJ false 4 4)=true:=kR
end Go.Proofs.Ik
