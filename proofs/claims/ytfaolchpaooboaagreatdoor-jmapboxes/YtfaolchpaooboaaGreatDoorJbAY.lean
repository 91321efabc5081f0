/- Part of the claim: facts that its last text uses. No conditions. -/
import Derived.Test.YtfaolchpaooboaaGreatDoorJbAO
import Derived.Test.YtfaolchpaooboaaGreatDoorJbAX
set_option linter.all false
noncomputable section
namespace Go.Proofs.Jm
open Go Go.Proofs Go.Vm
set_option maxRecDepth 100000
section
variable{h:Hp}{p:Pos}{ty:TypeId}{v:V}{n:Nat}{cs:List V}
theorem ldw{h:Hp}{i:Pos}{wr:Wr}{l:List V}{q:Nat}{v:V}(hg:h.get i=some (.cells wr l))(hq:l[q]?=some v):aW (.ptr i q) h=.ok v h:=by rw [ajz hg,hq]
theorem aj2(hg:h.get p=some (.cells (.rw ty true) [.ptr p 0,v])):wC [.ptr p 0] h=.ok (.tuple .nil) h:=by
 have L0:aW (.ptr p 0) h=.ok (.ptr p 0) h:=ldw hg rfl
 have N:aO .neq (.ptr 2) (.ptr p 0) (.ptr p 0) h=.ok (.bool false) h:=Jb rfl p 0
 rw [amh]
 simp (disch:=omega) only [vmL,Nat.reduceEqDiff,reduceCtorEq,↓reduceIte,vpL,vsL,vqL,SK,Pm,Pj,L0,TR,N]
 simp only [bD,fG,vmL,Nat.reduceEqDiff,reduceCtorEq,↓reduceIte,vpL,vsL,vqL,gB]
 rfl
theorem bsv(t:TypeId)(c:Int)(h:Hp):bK t [.int .u8 0] 1 [(0,1,.int .u8 c)] h=.ok (.slice h.next 0 1 (.kn 1)) (h.new (.cells (.rw t true) [.int .u8 c])):=rfl
theorem Ho(hg:h.get p=some (.cells (.rw ty true) [.ptr p 0,v]))(hp:p.nat<h.next.nat)(ov:Ow 0 h 5 1 v n cs)(hv:dO v≠some p)(hn:n<1000000000)(c:Int):
  ∃v' h',jg [.ptr p 0,.int .u8 c] h=.ok .iw h'∧h'.get p=some (.cells (.rw ty true) [.ptr p 0,v'])∧Ow 0 h' 5 1 v' (n+1) (cs++ [.int .u8 c])∧Ch (fun j=>j=p∨dO v=some j) h h'∧(∀j,dO v'=some j→h.next.nat≤j.nat)∧v'.cells= [v']:=by
 have C:=aj2 hg
 have L1:aW (.ptr p 1) h=.ok v h:=ldw hg rfl
 obtain⟨v',h1,e1,e2,o1,c1,n1⟩:=xC (bt:=1) (new:= [.int .u8 c]) ov rfl (by omega)
 have g1:h1.get p=some (.cells (.rw ty true) [.ptr p 0,v]):=(c1.get p hp fun q=>hv q).trans hg
 have S1:cZ 1 (.ptr p 1) v' h1=.ok V.undef (h1.put p (some (.cells (.rw ty true) [.ptr p 0,v']))):=qA g1 (by rw [e2];exact⟨rfl,rfl⟩) (by simp)
 have idv:∀j,dO v'=some j→h.next.nat≤j.nat:=fun j hj=>by rw [e2] at hj;cases hj;rw [Pos.dS];omega
 refine⟨v',h1.put p (some (.cells (.rw ty true) [.ptr p 0,v'])),?_,iq _ _ _,o1.ch (Ch.put (S:=fun j=>j=p) _ _ rfl) fun i hi e=>by have:=idv i hi;rw [e] at this;omega,
  (c1.mono fun j _ q=>.inr q).trans (Ch.put (S:=fun j=>j=p) _ _ rfl) fun j _ q=>.inl q,idv,by rw [e2];rfl⟩
 rw [amg]
 simp (disch:=omega) only [vmL,Nat.reduceEqDiff,reduceCtorEq,↓reduceIte,vpL,vsL,vqL,SI,Ph,Pg,Pe,O9,C,L1,bsv,e1,S1]
 simp only [bD,fG,vmL,Nat.reduceEqDiff,reduceCtorEq,↓reduceIte,vpL,vsL,vqL,gB]
def okW(c:Nat):Prop:=32≤c∧c<256∧c≠34∧c≠92
theorem aDS{q:List Nat}(hg:h.get p=some (.cells (.rw ty true) [.ptr p 0,v]))(hp:p.nat<h.next.nat)(ov:Ow 0 h 5 1 v n cs)(hv:dO v≠some p)(hn:n+q.length<100000000)(hq:∀c∈q,okW c):
  ∃r h',rJ [.ptr p 0,.str q] h=.ok r h'∧r=.tuple .nil∧∃v',h'.get p=some (.cells (.rw ty true) [.ptr p 0,v'])∧Ow 0 h' 5 1 v' (n+q.length+2) (cs++bys (34::(q++ [34])))∧Ch (fun j=>j=p∨dO v=some j) h h'∧(∀j,dO v'=some j→h.next.nat≤j.nat):=by
 obtain⟨v1,h1,e1,g1,o1,c1,i1,-⟩:=Ho hg hp ov hv (by omega) 34
 have n1:=c1.next
 rw [amn]
 show jy Tryz.prog _ (fun r h'=>r=.tuple .nil∧∃v',h'.get p=some (.cells (.rw ty true) [.ptr p 0,v'])∧Ow 0 h' 5 1 v' (n+q.length+2) (cs++bys (34::(q++ [34])))∧Ch (fun j=>j=p∨dO v=some j) h h'∧(∀j,dO v'=some j→h.next.nat≤j.nat)) _
 simp (disch:=omega) only [vmL,Nat.reduceEqDiff,reduceCtorEq,↓reduceIte,vpL,vsL,vqL,SX,Rn,Rl,e1]
 refine Oc.then (lq (n:=q.length) (fun m fr g=>∃(k:Nat) (u:V),fr.get (Pos.of 0)=some (.ptr p 0)∧fr.get (Pos.of 1)=some (.str q)∧fr.get (Pos.of 11)=some (.int .i64 (q.length:Int))∧fr.get (Pos.of 12)=some (.int .i64 (k:Int))∧k+m=q.length∧
   g.get p=some (.cells (.rw ty true) [.ptr p 0,u])∧Ow 0 g 5 1 u (n+1+k) (cs++bys (34::q.take k))∧Ch (fun j=>j=p∨dO v=some j) h g∧(∀j,dO u=some j→h.next.nat≤j.nat))
  (A:=fun fr g=>fr.get (Pos.of 0)=some (.ptr p 0)∧∃u,g.get p=some (.cells (.rw ty true) [.ptr p 0,u])∧Ow 0 g 5 1 u (n+1+q.length) (cs++bys (34::q))∧Ch (fun j=>j=p∨dO v=some j) h g∧(∀j,dO u=some j→h.next.nat≤j.nat)) (B:=fun _ _=>False) (by rw [sS];omega) ?_ ?_) ?_ ?_
 ·exact⟨0,v1,by simp only [vmL,Nat.reduceEqDiff,reduceCtorEq,↓reduceIte,vpL,vsL,vqL],by simp only [vmL,Nat.reduceEqDiff,reduceCtorEq,↓reduceIte,vpL,vsL,vqL],by simp only [vmL,Nat.reduceEqDiff,reduceCtorEq,↓reduceIte,vpL,vsL,vqL],by simp only [vmL,Nat.reduceEqDiff,reduceCtorEq,↓reduceIte,vpL,vsL,vqL];rfl,by omega,g1,by simpa [bys] using o1,c1,i1⟩
 ·rintro m fr g ⟨k,u,f0,f1,f11,f12,hk,gp,ou,cg,iu⟩
  have hn':=cg.next
  by_cases hz:m=0
  ·have hkq:k=q.length:=by omega
   subst hkq
   simp (disch:=omega) only [vmL,Nat.reduceEqDiff,reduceCtorEq,↓reduceIte,vpL,vsL,vqL,zl,yV,f11,f12]
   refine⟨rfl,by simp only [vmL,Nat.reduceEqDiff,reduceCtorEq,↓reduceIte,vpL,vsL,vqL,f0],u,gp,?_,cg,iu⟩
   rw [List.take_length] at ou
   exact ou
  ·have hlt:k<q.length:=by omega
   have hc:=hq _ (List.getElem_mem hlt)
   have htk:q.take (k+1)=q.take k++ [q[k]]:=by rw [List.take_add_one,List.getElem?_eq_getElem hlt];rfl
   have ix:∀h,bU (.str q) (.int .i64 (k:Int)) h=.ok (.int .u8 ((q[k]:Nat):Int)) h:=fun h=>gm (List.getElem?_eq_getElem hlt)
   generalize q[k]=c at hc htk ix
   have hup:dO u≠some p:=fun e=>by have:=iu p e;omega
   obtain⟨u',g',e',gp',o',c',iu',-⟩:=Ho gp (by omega) ou hup (by omega) (c:Int)
   have d34:decide ((c:Int)=34)=false:=decide_eq_false (by have:=hc.2.2.1;omega)
   have d92:decide ((c:Int)=92)=false:=decide_eq_false (by have:=hc.2.2.2;omega)
   have d32:decide ((c:Int)≥32)=true:=decide_eq_true (by have:=hc.1;omega)
   simp (disch:=omega) only [vmL,Nat.reduceEqDiff,reduceCtorEq,↓reduceIte,vpL,vsL,vqL,zl,yV,Rk,Rj,Ri,Gz,Gy,Gx,f0,f1,f11,f12,ix,d34,d92,d32,e']
   refine⟨m - 1,by omega,k+1,u',by simp only [vmL,Nat.reduceEqDiff,reduceCtorEq,↓reduceIte,vpL,vsL,vqL,f0],by simp only [vmL,Nat.reduceEqDiff,reduceCtorEq,↓reduceIte,vpL,vsL,vqL,f1],by simp only [vmL,Nat.reduceEqDiff,reduceCtorEq,↓reduceIte,vpL,vsL,vqL,f11],by simp only [vmL,Nat.reduceEqDiff,reduceCtorEq,↓reduceIte,vpL,vsL,vqL];rfl,by omega,gp',?_,cg.trans c' fun j hj q=>?_,fun j hj=>by have:=iu' j hj;omega⟩
   ·rw [htk]
    have:cs++bys (34::(q.take k++ [c]))=(cs++bys (34::q.take k))++ [V.int .u8 (c:Int)]:=by simp [bys]
    rw [this]
    exact o'
   ·rcases q with q|q
    ·exact .inl q
    ·have:=iu j q;omega
 ·rintro fr g ⟨f0,u,gp,ou,cg,iu⟩
  have hn':=cg.next
  have hup:dO u≠some p:=fun e=>by have:=iu p e;omega
  obtain⟨u',g',e',gp',o',c',iu',-⟩:=Ho gp (by omega) ou hup (by omega) 34
  simp (disch:=omega) only [vmL,Nat.reduceEqDiff,reduceCtorEq,↓reduceIte,vpL,vsL,vqL,Gw,f0,e']
  refine jy.nor (by simp only [fG,gB];rfl) ⟨rfl,u',gp',?_,cg.trans c' fun j hj q=>?_,fun j hj=>by have:=iu' j hj;omega⟩
  ·have:cs++bys (34::(q++ [34]))=(cs++bys (34::q))++ [V.int .u8 34]:=by simp [bys]
   rw [this,show n+q.length+2=n+1+q.length+1 by omega]
   exact o'
  ·rcases q with q|q
   ·exact .inl q
   ·have:=iu j q;omega
 ·intro fr g q;exact q.elim
end
end Go.Proofs.Jm
noncomputable section
namespace Go.Proofs.Jm
open Go Go.Proofs Go.Vm
set_option maxRecDepth 100000
section
variable{h:Hp}{v:V}{n:Nat}{cs:List V}
theorem aEs{q:List Nat}(ov:Ow 0 h 5 1 v n cs)(hn:n+q.length<100000000)(hq:∀c∈q,okW c):
  ∃r h',rH [v,.str q] h=.ok r h'∧Ow 0 h' 5 1 r (n+q.length+2) (cs++bys (34::(q++ [34])))∧Ch (fun j=>dO v=some j) h h'∧(∀j,dO r=some j→h.next.nat≤j.nat):=by
 obtain⟨v1,h1,e1,e1',o1,c1,n1⟩:=xC (bt:=1) (new:= [.int .u8 34]) ov rfl (by omega)
 have i1:∀j,dO v1=some j→h.next.nat≤j.nat:=fun j hj=>by rw [e1'] at hj;cases hj;rw [Pos.dS];omega
 rw [amm]
 show jy Tryz.prog _ (fun r h'=>Ow 0 h' 5 1 r (n+q.length+2) (cs++bys (34::(q++ [34])))∧Ch (fun j=>dO v=some j) h h'∧(∀j,dO r=some j→h.next.nat≤j.nat)) _
 simp (disch:=omega) only [vmL,Nat.reduceEqDiff,reduceCtorEq,↓reduceIte,vpL,vsL,vqL,SV,Rh,P9,P8,bsv,e1]
 refine Oc.then (lq (n:=q.length) (fun m fr g=>∃(k:Nat) (u:V),fr.get (Pos.of 0)=some u∧fr.get (Pos.of 1)=some (.str q)∧fr.get (Pos.of 5)=some (.int .i64 (k:Int))∧k+m=q.length∧
   Ow 0 g 5 1 u (n+1+k) (cs++bys (34::q.take k))∧Ch (fun j=>dO v=some j) h g∧(∀j,dO u=some j→h.next.nat≤j.nat))
  (A:=fun fr g=>∃u,fr.get (Pos.of 0)=some u∧Ow 0 g 5 1 u (n+1+q.length) (cs++bys (34::q))∧Ch (fun j=>dO v=some j) h g∧(∀j,dO u=some j→h.next.nat≤j.nat)) (B:=fun _ _=>False) (by rw [sS];omega) ?_ ?_) ?_ ?_
 ·exact⟨0,v1,by simp only [vmL,Nat.reduceEqDiff,reduceCtorEq,↓reduceIte,vpL,vsL,vqL],by simp only [vmL,Nat.reduceEqDiff,reduceCtorEq,↓reduceIte,vpL,vsL,vqL],by simp only [vmL,Nat.reduceEqDiff,reduceCtorEq,↓reduceIte,vpL,vsL,vqL];rfl,by omega,by simpa [bys] using o1,c1,i1⟩
 ·rintro m fr g ⟨k,u,f0,f1,f5,hk,ou,cg,iu⟩
  have hn':=cg.next
  by_cases hz:m=0
  ·have hkq:k=q.length:=by omega
   subst hkq
   simp (disch:=omega) only [vmL,Nat.reduceEqDiff,reduceCtorEq,↓reduceIte,vpL,vsL,vqL,zk,yU,f1,f5]
   refine⟨rfl,u,by simp only [vmL,Nat.reduceEqDiff,reduceCtorEq,↓reduceIte,vpL,vsL,vqL,f0],?_,cg,iu⟩
   rw [List.take_length] at ou
   exact ou
  ·have hlt:k<q.length:=by omega
   have hc:=hq _ (List.getElem_mem hlt)
   have htk:q.take (k+1)=q.take k++ [q[k]]:=by rw [List.take_add_one,List.getElem?_eq_getElem hlt];rfl
   have ix:∀h,bU (.str q) (.int .i64 (k:Int)) h=.ok (.int .u8 ((q[k]:Nat):Int)) h:=fun h=>gm (List.getElem?_eq_getElem hlt)
   generalize q[k]=c at hc htk ix
   obtain⟨u',g',e',e'',o',c',n'⟩:=xC (bt:=1) (new:= [.int .u8 (c:Int)]) ou rfl (by omega)
   have iu':∀j,dO u'=some j→g.next.nat≤j.nat:=fun j hj=>by rw [e''] at hj;cases hj;rw [Pos.dS];omega
   have dd:∀z:Int,(z=34∨z=92∨z=8∨z=9∨z=10∨z=12∨z=13)→decide ((c:Int)=z)=false:=fun z hz=>decide_eq_false (by have:=hc.1;have:=hc.2.2;omega)
   have d32:decide ((c:Int)<32)=false:=decide_eq_false (by have:=hc.1;omega)
   simp (disch:=omega) only [vmL,Nat.reduceEqDiff,reduceCtorEq,↓reduceIte,vpL,vsL,vqL,zk,yU,P6,PZ,PY,Gv,Gu,Gt,Gs,Gq,P5,P7,f0,f1,f5,ix,dd 34 (by simp),dd 92 (by simp),dd 8 (by simp),dd 9 (by simp),dd 10 (by simp),dd 12 (by simp),dd 13 (by simp),d32,bsv,e']
   refine⟨m - 1,by omega,k+1,u',by simp only [vmL,Nat.reduceEqDiff,reduceCtorEq,↓reduceIte,vpL,vsL,vqL],by simp only [vmL,Nat.reduceEqDiff,reduceCtorEq,↓reduceIte,vpL,vsL,vqL,f1],by simp only [vmL,Nat.reduceEqDiff,reduceCtorEq,↓reduceIte,vpL,vsL,vqL];rfl,by omega,?_,cg.trans c' fun j hj q=>?_,fun j hj=>by have:=iu' j hj;omega⟩
   ·rw [htk]
    have:cs++bys (34::(q.take k++ [c]))=(cs++bys (34::q.take k))++ [V.int .u8 (c:Int)]:=by simp [bys]
    rw [this]
    exact o'
   ·have:=iu j q;omega
 ·rintro fr g ⟨u,f0,ou,cg,iu⟩
  have hn':=cg.next
  obtain⟨u',g',e',e'',o',c',n'⟩:=xC (bt:=1) (new:= [.int .u8 34]) ou rfl (by omega)
  have iu':∀j,dO u'=some j→g.next.nat≤j.nat:=fun j hj=>by rw [e''] at hj;cases hj;rw [Pos.dS];omega
  simp (disch:=omega) only [vmL,Nat.reduceEqDiff,reduceCtorEq,↓reduceIte,vpL,vsL,vqL,Gp,f0,bsv,e']
  refine jy.ret (by simp only [fG,vmL,Nat.reduceEqDiff,reduceCtorEq,↓reduceIte,vpL,vsL,vqL,gB];rfl) ⟨?_,cg.trans c' fun j hj q=>?_,fun j hj=>by have:=iu' j hj;omega⟩
  ·have:cs++bys (34::(q++ [34]))=(cs++bys (34::q))++ [V.int .u8 34]:=by simp [bys]
   rw [this,show n+q.length+2=n+1+q.length+1 by omega]
   exact o'
  ·have:=iu j q;omega
 ·intro fr g q;exact q.elim
end
end Go.Proofs.Jm
