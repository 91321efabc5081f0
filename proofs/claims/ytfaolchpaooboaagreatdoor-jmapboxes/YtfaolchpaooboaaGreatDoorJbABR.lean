/- Part of the claim: facts that its last text uses. No conditions. -/
import Derived.Test.YtfaolchpaooboaaGreatDoorJbAO
import Derived.Test.YtfaolchpaooboaaGreatDoorJbABP
import Derived.Test.YtfaolchpaooboaaGreatDoorJbABQ
import Derived.Test.YtfaolchpaooboaaGreatDoorJbAI
set_option linter.all false
noncomputable section
namespace Go.Proofs.Jm
open Go Go.Proofs Go.Vm
open Go.ChangeShapes Go.WideShapes Go.ChangeAt Go.RowKit
set_option maxRecDepth 100000
set_option maxHeartbeats 4000000
theorem aUm:∀(k:Nat),k<15→∀(w:Bool) (x:V),isT (bD Tryz.prog [.tmp 4] (BT k w x))=true
 |0,_,true,x=>aIl x
 |0,_,false,x=>aIm x
 |1,_,true,x=>aIj x
 |1,_,false,x=>aIk x
 |2,_,true,x=>aIh x
 |2,_,false,x=>aIi x
 |3,_,true,x=>aIf x
 |3,_,false,x=>aIg x
 |4,_,true,x=>aId x
 |4,_,false,x=>aIe x
 |5,_,true,x=>aIb x
 |5,_,false,x=>aIc x
 |6,_,true,x=>aH9 x
 |6,_,false,x=>aIa x
 |7,_,true,x=>aH7 x
 |7,_,false,x=>aH8 x
 |8,_,true,x=>aH5 x
 |8,_,false,x=>aH6 x
 |9,_,true,x=>aH3 x
 |9,_,false,x=>aH4 x
 |10,_,true,x=>aDQ x
 |10,_,false,x=>aDR x
 |11,_,true,x=>aDO x
 |11,_,false,x=>aDP x
 |12,_,true,x=>aDM x
 |12,_,false,x=>aDN x
 |13,_,true,x=>aDK x
 |13,_,false,x=>aDL x
 |14,_,true,x=>aDI x
 |14,_,false,x=>aDJ x
 |n+15,h,_,_=>absurd h (by omega)
theorem aUj(w:Bool)(x:V):BP w x=some (BrF (BP w x),BrH (BP w x))∧(BrF (BP w x)).get (Pos.of 0)=some x:=by
 cases w with
 |true=>exact⟨aUk x,aUh x⟩
 |false=>exact⟨aUl x,aUi x⟩
theorem aUg(a:Nat)(ha:a<256)(w:Bool):isT (agI [.int .u8 (a:Int),.bool w] (h0 ah))=true:=by
 have key:=aUm (a % 15) (by omega) w (.int .u8 (a:Int))
 obtain⟨e1,f0⟩:=aUj w (.int .u8 (a:Int))
 rw [atj,BD]
 show isT (bD Tryz.prog [.tmp 4] (BC.fill ru (Bfr w (.int .u8 (a:Int))) (h0 ah)))=true
 rw [Ctx.plug _ e1]
 have Tm:((a:Nat):Int).tmod 15=((a % 15:Nat):Int):=rfl
 have e5:∀g,ru (BrF (BP w (.int .u8 (a:Int)))) g=.nor (T.set (some (.int .i64 ((a % 15+1:Nat):Int))) (Pos.of 7) (BrF (BP w (.int .u8 (a:Int))))) g:=fun g=>by
  rw [show((a % 15+1:Nat):Int)=1+((a % 15:Nat):Int) by omega]
  simp (disch:=omega) only [vmL,Nat.reduceEqDiff,reduceCtorEq,↓reduceIte,vpL,vsL,vqL,ru,f0,Tm]
 rw [e5]
 exact key
theorem avL{z:Int}(h:(Lit.int .u8 z).wf=true):∃a:Nat,z=(a:Int)∧a<256:=by
 have h2:0≤z∧z≤255:=by
  unfold Lit.wf at h
  simp only [Bool.and_eq_true,decide_eq_true_eq] at h
  exact h
 exact⟨z.toNat,by omega,by omega⟩
theorem walkOfJmapBoxes{H:Type}{enc:TypeId×Value→H}{spare:Nat→Bool}{held:Bool}(W:World){r:Reach}{b0 base:Nat}{v0 v1:Value}{d0 d1:DataW H}{p0 p1:List MemPlace}
  (h0:Value.okWide Tryz.prog W r b0 5 v0) (k0:DataW.Trod enc Tryz.prog W base spare held 5 v0 d0 p0) (h1:Value.okWide Tryz.prog W r b0 4 v1) (k1:DataW.Trod enc Tryz.prog W base spare held 4 v1 d1 p1):
  Calls Tryz.prog 4 #[v0,v1] W fun e W'=>e=.returned (.bool true)∧Below W.heap.size W W':=by
 obtain⟨z0,rfl,-,-,w0⟩:=open_int Tryz.underlying5 h0 k0
 obtain⟨w,rfl,-,-⟩:=open_bool Tryz.underlying4 h1 k1
 obtain⟨a,rfl,ha⟩:=avL w0
 obtain⟨h',e⟩:=ajP (aUg a ha w)
 exact Ub (cargs:= [_,_]) (args:= [_,_]) aNg Tryz.func4 (by kernel_rfl) (c:=codeOf Tryz.f4) (by kernel_rfl) (Seen.empty ah W) ⟨_,_,dK _ .u8 a,⟨_,[],iZ _ w,rfl,rfl⟩,rfl⟩ e
end Go.Proofs.Jm
