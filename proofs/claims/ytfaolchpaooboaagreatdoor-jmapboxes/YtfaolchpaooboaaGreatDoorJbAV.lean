/- Part of the claim: facts that its last text uses. No conditions. -/
import Derived.Test.YtfaolchpaooboaaGreatDoorJbAO
import Derived.Test.YtfaolchpaooboaaGreatDoorJbAU
set_option linter.all false
noncomputable section
namespace Go.Proofs.Jm
open Go Go.Proofs Go.Vm
set_option maxRecDepth 100000
theorem abp{c:Nat}(hc:c<128)(h:Hp):∃h1,wE [.int .i64 (c:Int)] h=.ok (.str [c]) h1∧Ch (fun _=>False) h h1:=by
 refine⟨h.new (.cells (.rw tB true) [.int .u8 (c:Int)]),?_,Ch.new _ _ _⟩
 have B:dR (.slice h.next 0 1 (.kn 1)) (h.new (.cells (.rw tB true) [.int .u8 (c:Int)]))=.ok (.str [c]) (h.new (.cells (.rw tB true) [.int .u8 (c:Int)])):=
  yc (s:= [c]) (rest:= []) (f:=true) (by rw [jH];rfl) (by simp;omega)
 rw [amk]
 simp (disch:=omega) only [vmL,Nat.reduceEqDiff,reduceCtorEq,↓reduceIte,vpL,vsL,vqL,SQ,PN,PL,PK,PI,avu,bs1,B]
 simp only [bD,fG,vmL,Nat.reduceEqDiff,reduceCtorEq,↓reduceIte,vpL,vsL,vqL,gB]
theorem Aw{s:List Nat}{a c:Nat}(hs:s[a]?=some c)(hc:c<128)(hl:s.length<1000000000)(h:Hp):
  ∃h1,pJ [.str s,.int .i64 (a:Int)] h=.ok (.tuple (.cons (.int .i64 (c:Int)) (.cons (.int .i64 ((a:Int)+1)) .nil))) h1∧Ch (fun _=>False) h h1:=by
 have ha:a<s.length:=(List.getElem?_eq_some_iff.1 hs).1
 obtain⟨h1,e1,c1⟩:=abp hc h
 refine⟨h1,?_,c1⟩
 have ix:∀h,bU (.str s) (.int .i64 (a:Int)) h=.ok (.int .u8 (c:Int)) h:=fun h=>gm hs
 have sl:∀h,eF (.str s) (some (.int .i64 (a:Int))) (some (.int .i64 ((a:Int)+1))) h=.ok (.str [c]) h:=fun h=>by
  have:=slc (a:=a) (b:=a+1) (s:=s) (by omega) (by omega) h
  rw [show((a+1:Nat):Int)=(a:Int)+1 by omega] at this
  rw [this,show a+1 - a=1 by omega]
  congr 2
  rw [List.drop_eq_getElem_cons ha]
  obtain⟨_,e⟩:=List.getElem?_eq_some_iff.1 hs
  rw [e];rfl
 rw [amo]
 simp (disch:=omega) only [vmL,Nat.reduceEqDiff,reduceCtorEq,↓reduceIte,vpL,vsL,vqL,SY,RH,RG,RF,RD,Rz,Ry,GR,GN,GL,GI,GH,G5,GK,mr,ix,e1,sl]
 simp only [bD,fG,vmL,Nat.reduceEqDiff,reduceCtorEq,↓reduceIte,vpL,vsL,vqL,gB]
 rfl
theorem G8{s:List Nat}(hs:∀c∈s,c<128)(hl:s.length<1000000000)(h:Hp):∃r h1,pK [.str s] h=.ok r h1∧r=.bool true∧Ch (fun _=>False) h h1:=by
 rw [amq]
 show jy Tryz.prog _ (fun r h1=>r=.bool true∧Ch (fun _=>False) h h1) _
 simp (disch:=omega) only [vmL,Nat.reduceEqDiff,reduceCtorEq,↓reduceIte,vpL,vsL,vqL,S9,RV,RU]
 refine Oc.then (lq (n:=s.length) (fun m fr g=>∃k:Nat,fr.get (Pos.of 0)=some (.str s)∧fr.get (Pos.of 3)=some (.int .i64 (k:Int))∧k+m=s.length∧Ch (fun _=>False) h g)
  (A:=fun fr g=>Ch (fun _=>False) h g) (B:=fun _ _=>False) (by rw [sS];omega) ?_ ?_) ?_ ?_
 ·exact⟨0,by simp only [vmL,Nat.reduceEqDiff,reduceCtorEq,↓reduceIte,vpL,vsL,vqL],by simp only [vmL,Nat.reduceEqDiff,reduceCtorEq,↓reduceIte,vpL,vsL,vqL];rfl,by omega,Ch.refl _ _⟩
 ·rintro m fr g ⟨k,f0,f3,hk,cg⟩
  by_cases hz:m=0
  ·simp (disch:=omega) only [vmL,Nat.reduceEqDiff,reduceCtorEq,↓reduceIte,vpL,vsL,vqL,zo,yZ,f0,f3]
   exact⟨rfl,cg⟩
  ·have hlt:k<s.length:=by omega
   obtain⟨g1,e1,c1⟩:=Aw (List.getElem?_eq_getElem hlt) (hs _ (List.getElem_mem _)) hl g
   generalize s[k]=c at e1
   simp (disch:=omega) only [vmL,Nat.reduceEqDiff,reduceCtorEq,↓reduceIte,vpL,vsL,vqL,zo,yZ,RS,RQ,RP,f0,f3,e1]
   exact⟨m - 1,by omega,k+1,by simp only [vmL,Nat.reduceEqDiff,reduceCtorEq,↓reduceIte,vpL,vsL,vqL,f0],by simp only [vmL,Nat.reduceEqDiff,reduceCtorEq,↓reduceIte,vpL,vsL,vqL];rfl,by omega,cg.trans c1 fun _ _ q=>q⟩
 ·intro fr g cg
  simp (disch:=omega) only [vmL,Nat.reduceEqDiff,reduceCtorEq,↓reduceIte,vpL,vsL,vqL,RN]
  exact jy.ret (by simp only [fG,vmL,Nat.reduceEqDiff,reduceCtorEq,↓reduceIte,vpL,vsL,vqL,gB]) ⟨rfl,cg⟩
 ·intro fr g q;exact q.elim
theorem Iq{s:List Nat}(hs:∀c∈s,c<128)(hl:s.length<1000000000)(h:Hp):∃h1,pK [.str s] h=.ok (.bool true) h1∧Ch (fun _=>False) h h1:=by
 obtain⟨r,h1,e,rfl,c⟩:=G8 hs hl h
 exact⟨h1,e,c⟩
def qR(c:Nat):Prop:=c=32∨c=9∨c=10∨c=13
section
variable{h:Hp}{p:Pos}{ty:TypeId}{s t:List Nat}{a c d:Nat}{x:V}
theorem agB(hg:h.get p=some (.cells (.rw ty true) [.str s,.int .i64 (a:Int),x]))(ha:s.length≤a):pI [.ptr p 0] h=.ok (.tuple .nil) h:=by
 have L0:aW (.ptr p 0) h=.ok (.str s) h:=ldc hg rfl
 have L1:aW (.ptr p 1) h=.ok (.int .i64 (a:Int)) h:=ldc hg rfl
 rw [G7]
 simp (disch:=omega) only [vmL,Nat.reduceEqDiff,reduceCtorEq,↓reduceIte,vpL,vsL,vqL,DL,yX,zn,mr,L0,L1]
 simp only [bD,fG,vmL,Nat.reduceEqDiff,reduceCtorEq,↓reduceIte,vpL,vsL,vqL,gB]
 rfl
theorem Ue(hg:h.get p=some (.cells (.rw ty true) [.str s,.int .i64 (a:Int),x]))(hs:s[a]?=some c)(hc:¬qR c):pI [.ptr p 0] h=.ok (.tuple .nil) h:=by
 have L0:aW (.ptr p 0) h=.ok (.str s) h:=ldc hg rfl
 have L1:aW (.ptr p 1) h=.ok (.int .i64 (a:Int)) h:=ldc hg rfl
 have ha:a<s.length:=(List.getElem?_eq_some_iff.1 hs).1
 have ix:∀h,bU (.str s) (.int .i64 (a:Int)) h=.ok (.int .u8 (c:Int)) h:=fun h=>gm hs
 have q:∀n:Int,(n=32∨n=9∨n=10∨n=13)→decide ((c:Int)=n)=false:=fun n hn=>decide_eq_false fun e=>hc (by unfold qR;omega)
 rw [G7]
 simp (disch:=omega) only [vmL,Nat.reduceEqDiff,reduceCtorEq,↓reduceIte,vpL,vsL,vqL,DL,yX,Rx,Rw,Ru,Rt,Ro,zn,mr,L0,L1,ix,q 32 (by simp),q 9 (by simp),q 10 (by simp),q 13 (by simp)]
 simp only [bD,fG,vmL,Nat.reduceEqDiff,reduceCtorEq,↓reduceIte,vpL,vsL,vqL,gB]
 rfl
end
section
variable{h:Hp}{p:Pos}{ty:TypeId}{s t:List Nat}{a c d:Nat}{x:V}
theorem Ug(hg:h.get p=some (.cells (.rw ty true) [.str s,.int .i64 (a:Int),x,.int .i64 0]))(ha:s.length≤a):uo [.ptr p 0] h=.ok (.tuple .nil) h:=by
 have L0:aW (.ptr p 0) h=.ok (.str s) h:=ldc hg rfl
 have L1:aW (.ptr p 1) h=.ok (.int .i64 (a:Int)) h:=ldc hg rfl
 rw [Tj]
 simp (disch:=omega) only [vmL,Nat.reduceEqDiff,reduceCtorEq,↓reduceIte,vpL,vsL,vqL,Ij,E8,Fa,mr,L0,L1]
 simp only [bD,fG,vmL,Nat.reduceEqDiff,reduceCtorEq,↓reduceIte,vpL,vsL,vqL,gB]
 rfl
theorem Oi(hg:h.get p=some (.cells (.rw ty true) [.str s,.int .i64 (a:Int),x,.int .i64 0]))(hs:s[a]?=some c)(hc:¬qR c):uo [.ptr p 0] h=.ok (.tuple .nil) h:=by
 have L0:aW (.ptr p 0) h=.ok (.str s) h:=ldc hg rfl
 have L1:aW (.ptr p 1) h=.ok (.int .i64 (a:Int)) h:=ldc hg rfl
 have ha:a<s.length:=(List.getElem?_eq_some_iff.1 hs).1
 have ix:∀h,bU (.str s) (.int .i64 (a:Int)) h=.ok (.int .u8 (c:Int)) h:=fun h=>gm hs
 have q:∀n:Int,(n=32∨n=9∨n=10∨n=13)→decide ((c:Int)=n)=false:=fun n hn=>decide_eq_false fun e=>hc (by unfold qR;omega)
 rw [Tj]
 simp (disch:=omega) only [vmL,Nat.reduceEqDiff,reduceCtorEq,↓reduceIte,vpL,vsL,vqL,Ij,E8,Fa,mr,L0,L1,ix,q 32 (by simp),q 9 (by simp),q 10 (by simp),q 13 (by simp)]
 simp only [bD,fG,vmL,Nat.reduceEqDiff,reduceCtorEq,↓reduceIte,vpL,vsL,vqL,gB]
 rfl
theorem aFw(hg:h.get p=some (.cells (.rw ty true) [.str s,.int .i64 (a:Int),x,.int .i64 0]))(ha:s.length≤a):nO [.ptr p 0,.int .u8 (d:Int)] h=.ok (.bool false) h:=by
 have L0:aW (.ptr p 0) h=.ok (.str s) h:=ldc hg rfl
 have L1:aW (.ptr p 1) h=.ok (.int .i64 (a:Int)) h:=ldc hg rfl
 have L3:aW (.ptr p 3) h=.ok (.int .i64 0) h:=ldc hg rfl
 have d0:decide ((0:Int)=0)=true:=by decide
 rw [wF]
 simp (disch:=omega) only [vmL,Nat.reduceEqDiff,reduceCtorEq,↓reduceIte,vpL,vsL,vqL,wu,um,uj,yY,L0,L1,L3,d0]
 simp only [bD,fG,vmL,Nat.reduceEqDiff,reduceCtorEq,↓reduceIte,vpL,vsL,vqL,gB]
theorem aIt(hg:h.get p=some (.cells (.rw ty true) [.str s,.int .i64 (a:Int),x,.int .i64 0]))(hs:s[a]?=some c)(hc:c≠d):nO [.ptr p 0,.int .u8 (d:Int)] h=.ok (.bool false) h:=by
 have L0:aW (.ptr p 0) h=.ok (.str s) h:=ldc hg rfl
 have L1:aW (.ptr p 1) h=.ok (.int .i64 (a:Int)) h:=ldc hg rfl
 have L3:aW (.ptr p 3) h=.ok (.int .i64 0) h:=ldc hg rfl
 have d0:decide ((0:Int)=0)=true:=by decide
 have ha:a<s.length:=(List.getElem?_eq_some_iff.1 hs).1
 have ix:∀h,bU (.str s) (.int .i64 (a:Int)) h=.ok (.int .u8 (c:Int)) h:=fun h=>gm hs
 have dc:decide ((c:Int)=(d:Int))=false:=decide_eq_false (by omega)
 rw [wF]
 simp (disch:=omega) only [vmL,Nat.reduceEqDiff,reduceCtorEq,↓reduceIte,vpL,vsL,vqL,wu,um,uj,yY,L0,L1,L3,d0,ix,dc]
 simp only [bD,fG,vmL,Nat.reduceEqDiff,reduceCtorEq,↓reduceIte,vpL,vsL,vqL,gB]
theorem aFv(hg:h.get p=some (.cells (.rw ty true) [.str s,.int .i64 (a:Int),x,.int .i64 0]))(hs:s[a]?=some c)(hl:s.length<1000000000):
  nO [.ptr p 0,.int .u8 (c:Int)] h=.ok (.bool true) (h.put p (some (.cells (.rw ty true) [.str s,.int .i64 ((a:Int)+1),x,.int .i64 0]))):=by
 have L0:aW (.ptr p 0) h=.ok (.str s) h:=ldc hg rfl
 have L1:aW (.ptr p 1) h=.ok (.int .i64 (a:Int)) h:=ldc hg rfl
 have L3:aW (.ptr p 3) h=.ok (.int .i64 0) h:=ldc hg rfl
 have d0:decide ((0:Int)=0)=true:=by decide
 have ha:a<s.length:=(List.getElem?_eq_some_iff.1 hs).1
 have ix:∀h,bU (.str s) (.int .i64 (a:Int)) h=.ok (.int .u8 (c:Int)) h:=fun h=>gm hs
 have dc:decide ((c:Int)=(c:Int))=true:=decide_eq_true rfl
 have S1:cZ 1 (.ptr p 1) (.int .i64 ((a:Int)+1)) h=.ok V.undef (h.put p (some (.cells (.rw ty true) [.str s,.int .i64 ((a:Int)+1),x,.int .i64 0]))):=qA hg ⟨rfl,rfl⟩ (by simp)
 rw [wF]
 simp (disch:=omega) only [vmL,Nat.reduceEqDiff,reduceCtorEq,↓reduceIte,vpL,vsL,vqL,wu,um,uj,RJ,RI,L0,L1,L3,d0,ix,dc,S1]
 simp only [bD,fG,vmL,Nat.reduceEqDiff,reduceCtorEq,↓reduceIte,vpL,vsL,vqL,gB]
end
end Go.Proofs.Jm
noncomputable section
namespace Go.Proofs.Jm
open Go Go.Proofs Go.Vm
set_option maxRecDepth 100000
section
variable{h:Hp}{p:Pos}{ty:TypeId}{s t:List Nat}{a:Nat}{x:V}
theorem Iw{q r:List Nat}(hg:h.get p=some (.cells (.rw ty true) [.str s,.int .i64 (a:Int),x,.int .i64 0]))(hp:p.nat<h.next.nat)(hd:s.drop a=q++34::r)(hq:∀c∈q,okC c)(hl:s.length<1000000000):
  ∃y h1,rO [.ptr p 0] h=.ok y h1∧y=.str q∧Ch (fun j=>j=p) h h1∧h1.get p=some (.cells (.rw ty true) [.str s,.int .i64 ((a+(q.length+1):Nat):Int),x,.int .i64 0]):=by
 have hlen:a+q.length+1+r.length=s.length:=by
  have:=congrArg List.length hd
  simp at this
  omega
 have d0:decide ((0:Int)=0)=true:=by decide
 rw [ams]
 show jy Tryz.prog _ (fun y h1=>y=.str q∧Ch (fun j=>j=p) h h1∧h1.get p=some (.cells (.rw ty true) [.str s,.int .i64 ((a+(q.length+1):Nat):Int),x,.int .i64 0])) _
 simp (disch:=omega) only [vmL,Nat.reduceEqDiff,reduceCtorEq,↓reduceIte,vpL,vsL,vqL,Td,SE,SC]
 refine Oc.then (lq (n:=q.length+1) (fun m fr g=>∃(k:Nat) (v:V),fr.get (Pos.of 0)=some (.ptr p 0)∧fr.get (Pos.of 3)=some v∧Ow h.next.nat g tB 1 v k (bys (q.take k))∧k+m=q.length+1∧k≤q.length∧Ch (fun j=>j=p) h g∧
   g.get p=some (.cells (.rw ty true) [.str s,.int .i64 ((a+k:Nat):Int),x,.int .i64 0]))
  (A:=fun _ _=>False) (B:=fun fr g=>fr.get (Pos.of 2)=some (.str q)∧Ch (fun j=>j=p) h g∧g.get p=some (.cells (.rw ty true) [.str s,.int .i64 ((a+(q.length+1):Nat):Int),x,.int .i64 0])) (by rw [sS];omega) ?_ ?_) ?_ ?_
 ·exact⟨0,.af,by simp only [vmL,Nat.reduceEqDiff,reduceCtorEq,↓reduceIte,vpL,vsL,vqL],by simp only [vmL,Nat.reduceEqDiff,reduceCtorEq,↓reduceIte,vpL,vsL,vqL],Ow.nil _ _ _ _,by omega,by omega,Ch.refl _ _,by simpa using hg⟩
 ·rintro m fr g ⟨k,v,f0,f3,ov,hk,hkq,cg,gp⟩
  have L0:aW (.ptr p 0) g=.ok (.str s) g:=ldc gp rfl
  have L1:aW (.ptr p 1) g=.ok (.int .i64 ((a+k:Nat):Int)) g:=ldc gp rfl
  have L3:aW (.ptr p 3) g=.ok (.int .i64 0) g:=ldc gp rfl
  have dk:s.drop (a+k)=(q++34::r).drop k:=drop_at hd
  have hn:=cg.next
  by_cases hz:k=q.length
  ·subst hz
   rw [List.drop_left] at dk
   have ix:∀h,bU (.str s) (.int .i64 ((a+q.length:Nat):Int)) h=.ok (.int .u8 34) h:=fun h=>gm (mM dk)
   have S1:cZ 1 (.ptr p 1) (.int .i64 (((a+q.length:Nat):Int)+1)) g=.ok V.undef (g.put p (some (.cells (.rw ty true) [.str s,.int .i64 (((a+q.length:Nat):Int)+1),x,.int .i64 0]))):=qA gp ⟨rfl,rfl⟩ (by simp)
   have gv:∀i,dO v=some i→(g.put p (some (.cells (.rw ty true) [.str s,.int .i64 (((a+q.length:Nat):Int)+1),x,.int .i64 0]))).get i=g.get i:=fun i hi=>oN _ (by have:=(ov.vN hi).1;omega) _
   rw [List.take_length] at ov
   have B1:=vw ov.sl (fun c hc=>by have:=(hq c hc).2.1;omega) gv
   have d34:decide ((34:Int)=34)=true:=by decide
   simp (disch:=omega) only [vmL,Nat.reduceEqDiff,reduceCtorEq,↓reduceIte,vpL,vsL,vqL,zu,zh,zf,y9,vZ,GY,GX,f0,f3,L0,L1,L3,d0,d34,ix,S1,B1]
   refine⟨by simp only [vmL,Nat.reduceEqDiff,reduceCtorEq,↓reduceIte,vpL,vsL,vqL],cg.trans (Ch.put (S:=fun j=>j=p) _ _ rfl) fun _ _ q=>q,?_⟩
   rw [iq]
   simp
   omega
  ·have hlt:k<q.length:=by omega
   rw [List.drop_append_of_le_length (by omega),List.drop_eq_getElem_cons hlt] at dk
   have hc:=hq _ (List.getElem_mem hlt)
   have htk:q.take (k+1)=q.take k++ [q[k]]:=by rw [List.take_add_one,List.getElem?_eq_getElem hlt];rfl
   generalize q[k]=c at dk hc htk
   have dk':s.drop (a+k)=c::(q.drop (k+1)++34::r):=dk
   have ix:∀h,bU (.str s) (.int .i64 ((a+k:Nat):Int)) h=.ok (.int .u8 ((c:Nat):Int)) h:=fun h=>gm (mM dk')
   obtain⟨g1,e1,c1⟩:=Aw (mM dk') hc.2.1 hl g
   have gp1:=(c1.get p (by omega) fun q=>q).trans gp
   have L0':aW (.ptr p 0) g1=.ok (.str s) g1:=ldc gp1 rfl
   have L1':aW (.ptr p 1) g1=.ok (.int .i64 ((a+k:Nat):Int)) g1:=ldc gp1 rfl
   have sl:∀h,eF (.str s) (some (.int .i64 ((a+k:Nat):Int))) (some (.int .i64 (((a+k:Nat):Int)+1))) h=.ok (.str [c]) h:=fun h=>by
    have:=slc (a:=a+k) (b:=a+k+1) (s:=s) (by omega) (by omega) h
    rw [show((a+k+1:Nat):Int)=((a+k:Nat):Int)+1 by omega] at this
    rw [this,dk',show a+k+1 - (a+k)=1 by omega]
    rfl
   have ov1:Ow h.next.nat g1 tB 1 v k (bys (q.take k)):=ov.ch c1 fun _ _ q=>q
   obtain⟨v',g2,e2,ov2,c2,-⟩:=YK (bt:=1) (t:= [c]) ov1 (by have:=c1.next;omega) (by simp;omega)
   have gp2:g2.get p=some (.cells (.rw ty true) [.str s,.int .i64 ((a+k:Nat):Int),x,.int .i64 0]):=(c2.get p (by have:=c1.next;omega) fun q=>by have:=(ov1.vN q).1;omega).trans gp1
   have S2:cZ 1 (.ptr p 1) (.int .i64 (((a+k:Nat):Int)+1)) g2=.ok V.undef (g2.put p (some (.cells (.rw ty true) [.str s,.int .i64 (((a+k:Nat):Int)+1),x,.int .i64 0]))):=qA gp2 ⟨rfl,rfl⟩ (by simp)
   have e34:decide ((c:Int)=34)=false:=decide_eq_false (by have:=hc.2.2.1;omega)
   have e92:decide ((c:Int)=92)=false:=decide_eq_false (by have:=hc.2.2.2;omega)
   have d1:decide ((c:Int)<32)=false:=decide_eq_false (by have:=hc.1;omega)
   have d2:decide ((c:Int)<0)=false:=decide_eq_false (by omega)
   simp (disch:=omega) only [vmL,Nat.reduceEqDiff,reduceCtorEq,↓reduceIte,vpL,vsL,vqL,zu,zh,zf,y9,vZ,GV,GU,Sz,Sv,Sr,GZ,f0,f3,L0,L1,L3,d0,ix,e34,e92,d1,d2,e1,L0',L1',sl,e2,S2]
   have cAll:Ch (fun j=>j=p) h (g2.put p (some (.cells (.rw ty true) [.str s,.int .i64 (((a+k:Nat):Int)+1),x,.int .i64 0]))):=
    ((cg.trans (c1.mono fun _ _ q=>q.elim) fun _ _ q=>q).trans c2 fun j hj q=>by have:=(ov1.vN q).1;omega).trans (Ch.put (S:=fun j=>j=p) _ _ rfl) fun _ _ q=>q
   refine⟨m - 1,by omega,k+1,v',by simp only [vmL,Nat.reduceEqDiff,reduceCtorEq,↓reduceIte,vpL,vsL,vqL,f0],by simp only [vmL,Nat.reduceEqDiff,reduceCtorEq,↓reduceIte,vpL,vsL,vqL],?_,by omega,by omega,cAll,by rw [iq];simp;omega⟩
   rw [htk]
   exact ov2.ch (Ch.put (S:=fun j=>j=p) _ _ rfl) fun i hi e=>by have:=(ov2.vN hi).1;rw [e] at this;omega
 ·intro fr g q;exact q.elim
 ·rintro fr g ⟨f2,cg,gp⟩
  exact jy.ret (by simp only [fG,vmL,Nat.reduceEqDiff,reduceCtorEq,↓reduceIte,vpL,vsL,vqL,f2,gB]) ⟨rfl,cg,gp⟩
end
end Go.Proofs.Jm
