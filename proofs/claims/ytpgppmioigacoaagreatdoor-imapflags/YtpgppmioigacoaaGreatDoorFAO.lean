/- Lemmas. No conditions. -/
import Derived.Test.YtpgppmioigacoaaGreatDoorFAL
set_option linter.all false
set_option maxRecDepth 100000
noncomputable section
open Go Go.Proofs Go.Vm
namespace Go.Proofs.Ik
def aPE:bP (dJ true 0 9)=true:=kR
def aPv:bP (dJ true 1 9)=true:=kR
def aPm:bP (dJ true 2 9)=true:=kR
def aPd:bP (dJ true 3 9)=true:=kR
def aO4:bP (dJ true 4 9)=true:=kR
def aQn:bP (dJ false 0 9)=true:=kR
def aQe:bP (dJ false 1 9)=true:=kR
def aP5:bP (dJ false 2 9)=true:=kR
def aPW:bP (dJ false 3 9)=true:=kR
def aPN:bP (dJ false 4 9)=true:=kR
def aSU:bP (qp 1)=true:=kR
def aST:bP (qp 2)=true:=kR
def aSS:bP (qp 3)=true:=kR
def aSR:bP (qp 4)=true:=kR
def aSQ:bP (qp 5)=true:=kR
def aSP:bP (qp 6)=true:=kR
def aSO:bP (qp 7)=true:=kR
def aSN:bP (qp 8)=true:=kR
def aSM:bP (qp 9)=true:=kR
end Go.Proofs.Ik
