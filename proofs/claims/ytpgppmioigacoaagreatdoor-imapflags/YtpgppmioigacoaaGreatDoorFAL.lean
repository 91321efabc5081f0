/- Lemmas. No conditions. -/
import Derived.Test.YtpgppmioigacoaaGreatDoorFAK
set_option linter.all false
set_option maxRecDepth 100000
noncomputable section
open Go Go.Proofs Go.Vm
namespace Go.Proofs.Ik
abbrev fsA:List Nat:= [97,32,76,79,71,73,78,32,117,32,112,13,10,98,32,83,69,76,69,67,84,32,73,78,66,79,88,13,10]
abbrev flA:List (List Wo):= [[.a [97],.a [76,79,71,73,78],.a [117],.a [112]],[.a [98],.a [83,69,76,69,67,84],.a [73,78,66,79,88]]]
def lT(s:Bool):Nat:=match s with|true=>43|false=>45
def sQ(f:Nat):List Nat:=aaY.getD f []
def auQ(s:Bool)(f k:Nat):List Nat:= [120,32,83,84,79,82,69,32]++ [48+k]++ [32]++ [lT s]++ [70,76,65,71,83,46,83,73,76,69,78,84,32,40]++sQ f++ [41,13,10]
def aHB(s:Bool)(f k:Nat):List Wo:= [.a [120],.a [83,84,79,82,69],.a [48+k],.a (lT s:: [70,76,65,71,83,46,83,73,76,69,78,84]),.l [sQ f]]
def aTA(f:Nat):List Nat:=match f with|0=> [105,108,110]|1=> [103,106,108]|2=> [99,102,104]|3=> [103,106,108]|_=> [97,100,102]
def awf(k:Nat):List Nat:= [121,32,70,69,84,67,72,32]++ [48+k]++ [32,70,76,65,71,83,13,10]
def aIr(k:Nat):List Wo:= [.a [121],.a [70,69,84,67,72],.a [48+k],.a [70,76,65,71,83]]
abbrev fsN:List Nat:= [122,32,78,79,79,80,13,10]
abbrev flN:List (List Wo):= [[.a [122],.a [78,79,79,80]]]
abbrev Ent:Type:=List Nat×List (List Wo)×List Nat
def aQL:Ent:=(fsA,flA,[51,98,100])
def aQK:Ent:=(fsN,flN,[33,35])
def qp(k:Nat):Ent:=(awf k,[aIr k],[59,61])
def dJ(s:Bool)(f k:Nat):Ent:=(auQ s f k,[aHB s f k],aTA f)
def okA:bP aQL=true:=kR
def okN:bP aQK=true:=kR
end Go.Proofs.Ik
