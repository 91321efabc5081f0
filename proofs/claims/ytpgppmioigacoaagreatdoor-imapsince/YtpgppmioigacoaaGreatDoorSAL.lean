/- Lemmas that the claim's last text uses. No conditions. -/
import Derived.Test.YtpgppmioigacoaaGreatDoorSAK
set_option linter.all false
set_option maxRecDepth 100000
noncomputable section
open Go Go.Proofs Go.Vm
namespace Go.Proofs.Ik
def dgt(n:Nat):List Nat:=match Nat.blt n 10 with|true=> [48+n]|false=> [48+n / 10,48+n % 10]
abbrev fsA:List Nat:= [97,32,76,79,71,73,78,32,117,32,112,13,10,98,32,83,69,76,69,67,84,32,73,78,66,79,88,13,10]
abbrev flA:List (List Wo):= [[.a [97],.a [76,79,71,73,78],.a [117],.a [112]],[.a [98],.a [83,69,76,69,67,84],.a [73,78,66,79,88]]]
def asG(uid:Bool)(n:Nat):List Nat:= [120,32]++(match uid with|true=> [85,73,68,32]|false=> [])++ [83,84,79,82,69,32,49,58,42,32,40,85,78,67,72,65,78,71,69,68,83,73,78,67,69,32]++dgt n++ [41,32,43,70,76,65,71,83,46,83,73,76,69,78,84,32,40,121,41,13,10]
def aAp(uid:Bool)(n:Nat):List Wo:=.a [120]::(match uid with|true=> [.a [85,73,68]]|false=> [])++ [.a [83,84,79,82,69],.a [49,58,42],.l [[85,78,67,72,65,78,71,69,68,83,73,78,67,69],dgt n],.a [43,70,76,65,71,83,46,83,73,76,69,78,84],.l [[121]]]
def aOv(uid:Bool)(n:Nat):List Nat:=match (match uid with|true=>12|false=>0)+(match Nat.blt n 10 with|true=>0|false=>2) with|k=> [131+k,144+k,147+k,149+k]
def aLN:List Nat×List (List Wo)×List Nat:=(fsA,flA,[51,98,100])
def ja(uid:Bool)(n:Nat):List Nat×List (List Wo)×List Nat:=(asG uid n,[aAp uid n],aOv uid n)
theorem okA:fV aLN=true:=kR
end Go.Proofs.Ik
