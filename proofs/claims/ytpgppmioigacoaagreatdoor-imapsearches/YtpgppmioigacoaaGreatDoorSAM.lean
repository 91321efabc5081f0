/- Lemmas. No conditions. -/
import Derived.Test.YtpgppmioigacoaaGreatDoorSAL
set_option linter.all false
set_option maxRecDepth 100000
noncomputable section
open Go Go.Proofs Go.Vm
namespace Go.Proofs.Ik
abbrev fsA:List Nat:= [97,32,76,79,71,73,78,32,117,32,112,13,10,98,32,83,69,76,69,67,84,32,73,78,66,79,88,13,10]
abbrev flA:List (List Wo):= [[.a [97],.a [76,79,71,73,78],.a [117],.a [112]],[.a [98],.a [83,69,76,69,67,84],.a [73,78,66,79,88]]]
def auf(k:Nat):List Nat:= [97,32,83,69,65,82,67,72,32,83,69,69,78,13,10,98,32,83,69,65,82,67,72,32,85,78,83,69,69,78,13,10,99,32,85,73,68,32,83,69,65,82,67,72,32,115,101,101,110,13,10,100,32,83,69,65,82,67,72,32,83,85,66,74,69,67,84,32,83]++vI k++ [13,10,101,32,83,69,65,82,67,72,32,49,58,42,32,78,79,84,32,65,76,76,13,10]
def aoW(k:Nat):List (List Wo):= [[.a [97],.a [83,69,65,82,67,72],.a [83,69,69,78]],[.a [98],.a [83,69,65,82,67,72],.a [85,78,83,69,69,78]],[.a [99],.a [85,73,68],.a [83,69,65,82,67,72],.a [115,101,101,110]],[.a [100],.a [83,69,65,82,67,72],.a [83,85,66,74,69,67,84],.a (upS k)],[.a [101],.a [83,69,65,82,67,72],.a [49,58,42],.a [78,79,84],.a [65,76,76]]]
abbrev Ent:Type:=List Nat×List (List Wo)×List Nat
def aN6:Ent:=(fsA,flA,[51,98,100])
def aN3(k:Nat):Ent:=(auf k,aoW k,[51,100,157,222,289,291])
def okA:amA aN6=true:=kR
end Go.Proofs.Ik
