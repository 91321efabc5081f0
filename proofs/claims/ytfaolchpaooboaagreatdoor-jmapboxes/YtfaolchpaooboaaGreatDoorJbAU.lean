/- Part of the claim: facts that its last text uses. No conditions. -/
import Derived.Test.YtfaolchpaooboaaGreatDoorJbAO
import Derived.Test.YtfaolchpaooboaaGreatDoorJbAT
set_option linter.all false
noncomputable section
namespace Go.Vm
theorem mr(b:F→Hp→Out)(fr:F)(h:Hp):eU b lf fr h=lK (b fr h) (eU b 9999999999999999999):=by
 rw [show lf=9999999999999999999+1 by rw [sS],abN]
 rfl
end Go.Vm
namespace Go.Proofs.Jm
open Go Go.Proofs Go.Vm
set_option maxRecDepth 100000
abbrev tB:TypeId:=5
theorem abk{c:Nat}(hc:c<128)(h:Hp):wB [.int .u8 (c:Int)] h=.ok (.tuple (.cons (.int .i64 1) (.cons (.int .i64 (c:Int)) .nil))) h:=by
 rw [amf]
 simp (disch:=omega) only [vmL,Nat.reduceEqDiff,reduceCtorEq,↓reduceIte,vpL,vsL,vqL,SH,O8,O7,O6]
 simp only [bD,fG,vmL,Nat.reduceEqDiff,reduceCtorEq,↓reduceIte,vpL,vsL,vqL,gB]
 rfl
theorem avu{c:Nat}(hc:c<256)(h:Hp):dh .u8 (.int .i64 (c:Int)) h=.ok (.int .u8 (c:Int)) h:=by
 show fZ .u8 (mW .u8 (c:Int)) h=_
 rw [oI,wrap_u8 hc,fD]
theorem bs1{c:Nat}(t:TypeId)(h:Hp):bK t [.int .u8 0] 1 [(0,1,.int .u8 (c:Int))] h=.ok (.slice h.next 0 1 (.kn 1)) (h.new (.cells (.rw t true) [.int .u8 (c:Int)])):=rfl
theorem ahv{c:Nat}(hc:c<128)(h:Hp):∃h1,wz [.int .i64 (c:Int)] h=.ok (.str [c]) h1∧Ch (fun _=>False) h h1:=by
 refine⟨h.new (.cells (.rw tB true) [.int .u8 (c:Int)]),?_,Ch.new _ _ _⟩
 have B:dR (.slice h.next 0 1 (.kn 1)) (h.new (.cells (.rw tB true) [.int .u8 (c:Int)]))=.ok (.str [c]) (h.new (.cells (.rw tB true) [.int .u8 (c:Int)])):=
  yc (s:= [c]) (rest:= []) (f:=true) (by rw [jH];rfl) (by simp;omega)
 rw [ame]
 simp (disch:=omega) only [vmL,Nat.reduceEqDiff,reduceCtorEq,↓reduceIte,vpL,vsL,vqL,SG,O5,O4,O3,O1,avu,bs1,B]
 simp only [bD,fG,vmL,Nat.reduceEqDiff,reduceCtorEq,↓reduceIte,vpL,vsL,vqL,gB]
theorem slc{s:List Nat}{a b:Nat}(h1:a≤b)(h2:b≤s.length)(h:Hp):eF (.str s) (some (.int .i64 (a:Int))) (some (.int .i64 (b:Int))) h=.ok (.str ((s.drop a).take (b - a))) h:=by
 show(match Nat.ble b s.length,Nat.ble a b with
  |true,true=>R.ok (V.str (takeN (b - a) (qc a s))) h
  |_,_=>.bad)=_
 rw [Nat.ble_eq_true_of_le h1,Nat.ble_eq_true_of_le h2,Iz,tN]
theorem F5{s:List Nat}{a c:Nat}(hs:s[a]?=some c)(hc:c<128)(hl:s.length<1000000000)(h:Hp):
  ∃h1,pG [.str s,.int .i64 (a:Int)] h=.ok (.tuple (.cons (.int .i64 (c:Int)) (.cons (.int .i64 ((a:Int)+1)) .nil))) h1∧Ch (fun _=>False) h h1:=by
 have ha:a<s.length:=(List.getElem?_eq_some_iff.1 hs).1
 obtain⟨h1,e1,c1⟩:=ahv hc h
 refine⟨h1,?_,c1⟩
 have ix:∀h,bU (.str s) (.int .i64 (a:Int)) h=.ok (.int .u8 (c:Int)) h:=fun h=>gm hs
 have sl:∀h,eF (.str s) (some (.int .i64 (a:Int))) (some (.int .i64 ((a:Int)+1))) h=.ok (.str [c]) h:=fun h=>by
  have:=slc (a:=a) (b:=a+1) (s:=s) (by omega) (by omega) h
  rw [show((a+1:Nat):Int)=(a:Int)+1 by omega] at this
  rw [this,show a+1 - a=1 by omega]
  congr 2
  rw [List.drop_eq_getElem_cons ha]
  obtain⟨_,e⟩:=List.getElem?_eq_some_iff.1 hs
  rw [e];rfl
 rw [aml]
 simp (disch:=omega) only [vmL,Nat.reduceEqDiff,reduceCtorEq,↓reduceIte,vpL,vsL,vqL,SS,PX,PW,PV,PU,PS,Gn,Gm,Ti,PO,mr,ix,abk hc,e1,sl]
 simp only [bD,fG,vmL,Nat.reduceEqDiff,reduceCtorEq,↓reduceIte,vpL,vsL,vqL,gB]
 rfl
theorem ldc{h:Hp}{i:Pos}{wr:Wr}{l:List V}{q:Nat}{v:V}(hg:h.get i=some (.cells wr l))(hq:l[q]?=some v):aW (.ptr i q) h=.ok v h:=by rw [ajz hg,hq]
theorem Ip{s:List Nat}(hs:∀c∈s,c<128)(hl:s.length<1000000000)(h:Hp):∃r h1,pR [.str s] h=.ok r h1∧r=.bool true∧Ch (fun _=>False) h h1:=by
 rw [amr]
 show jy Tryz.prog _ (fun r h1=>r=.bool true∧Ch (fun _=>False) h h1) _
 simp (disch:=omega) only [vmL,Nat.reduceEqDiff,reduceCtorEq,↓reduceIte,vpL,vsL,vqL,Tc,Sm,Sj]
 refine Oc.then (lq (n:=s.length) (fun m fr g=>∃k:Nat,fr.get (Pos.of 0)=some (.str s)∧fr.get (Pos.of 3)=some (.int .i64 (k:Int))∧k+m=s.length∧Ch (fun _=>False) h g)
  (A:=fun fr g=>Ch (fun _=>False) h g) (B:=fun _ _=>False) (by rw [sS];omega) ?_ ?_) ?_ ?_
 ·exact⟨0,by simp only [vmL,Nat.reduceEqDiff,reduceCtorEq,↓reduceIte,vpL,vsL,vqL],by simp only [vmL,Nat.reduceEqDiff,reduceCtorEq,↓reduceIte,vpL,vsL,vqL];rfl,by omega,Ch.refl _ _⟩
 ·rintro m fr g ⟨k,f0,f3,hk,cg⟩
  by_cases hz:m=0
  ·simp (disch:=omega) only [vmL,Nat.reduceEqDiff,reduceCtorEq,↓reduceIte,vpL,vsL,vqL,zq,y8,f0,f3]
   exact⟨rfl,cg⟩
  ·have hlt:k<s.length:=by omega
   obtain⟨g1,e1,c1⟩:=F5 (List.getElem?_eq_getElem hlt) (hs _ (List.getElem_mem _)) hl g
   generalize s[k]=c at e1
   simp (disch:=omega) only [vmL,Nat.reduceEqDiff,reduceCtorEq,↓reduceIte,vpL,vsL,vqL,zq,y8,Si,RZ,RY,f0,f3,e1]
   exact⟨m - 1,by omega,k+1,by simp only [vmL,Nat.reduceEqDiff,reduceCtorEq,↓reduceIte,vpL,vsL,vqL,f0],by simp only [vmL,Nat.reduceEqDiff,reduceCtorEq,↓reduceIte,vpL,vsL,vqL];rfl,by omega,cg.trans c1 fun _ _ q=>q⟩
 ·intro fr g cg
  simp (disch:=omega) only [vmL,Nat.reduceEqDiff,reduceCtorEq,↓reduceIte,vpL,vsL,vqL,RX]
  exact jy.ret (by simp only [fG,vmL,Nat.reduceEqDiff,reduceCtorEq,↓reduceIte,vpL,vsL,vqL,gB]) ⟨rfl,cg⟩
 ·intro fr g q;exact q.elim
theorem TD{s:List Nat}(hs:∀c∈s,c<128)(hl:s.length<1000000000)(h:Hp):∃h1,pR [.str s] h=.ok (.bool true) h1∧Ch (fun _=>False) h h1:=by
 obtain⟨r,h1,e,rfl,c⟩:=Ip hs hl h
 exact⟨h1,e,c⟩
section
variable{h:Hp}{p:Pos}{ty:TypeId}{s t:List Nat}{a:Nat}{x:V}
theorem Ee(hg:h.get p=some (.cells (.rw ty true) [.str s,.int .i64 (a:Int),x]))(h1:a+t.length≤s.length)(h2:(s.drop a).take t.length=t)(hl:s.length<1000000000):
  jR [.ptr p 0,.str t] h=.ok (.bool true) (h.put p (some (.cells (.rw ty true) [.str s,.int .i64 ((a:Int)+(t.length:Int)),x]))):=by
 have L0:aW (.ptr p 0) h=.ok (.str s) h:=ldc hg rfl
 have L1:aW (.ptr p 1) h=.ok (.int .i64 (a:Int)) h:=ldc hg rfl
 have S1:cZ 1 (.ptr p 1) (.int .i64 ((a:Int)+(t.length:Int))) h=.ok V.undef (h.put p (some (.cells (.rw ty true) [.str s,.int .i64 ((a:Int)+(t.length:Int)),x]))):=qA hg ⟨rfl,rfl⟩ (by simp)
 have sl:∀h,eF (.str s) (some (.int .i64 (a:Int))) (some (.int .i64 ((a:Int)+(t.length:Int)))) h=.ok (.str t) h:=fun h=>by
  have:=slc (a:=a) (b:=a+t.length) (s:=s) (by omega) (by omega) h
  rw [show((a+t.length:Nat):Int)=(a:Int)+(t.length:Int) by omega] at this
  rw [this,show a+t.length - a=t.length by omega,h2]
 have d:decide (t≠t)=false:=by simp
 rw [G6]
 simp (disch:=omega) only [vmL,Nat.reduceEqDiff,reduceCtorEq,↓reduceIte,vpL,vsL,vqL,wo,uh,ug,PG,PE,L0,L1,S1,sl,d]
 simp only [bD,fG,vmL,Nat.reduceEqDiff,reduceCtorEq,↓reduceIte,vpL,vsL,vqL,gB]
theorem JS(hg:h.get p=some (.cells (.rw ty true) [.str s,.int .i64 (a:Int),x]))(h1:¬(a+t.length≤s.length∧(s.drop a).take t.length=t))(hl:s.length<1000000000)(ha:a<1000000000)(ht:t.length<1000000000):
  jR [.ptr p 0,.str t] h=.ok (.bool false) h:=by
 have L0:aW (.ptr p 0) h=.ok (.str s) h:=ldc hg rfl
 have L1:aW (.ptr p 1) h=.ok (.int .i64 (a:Int)) h:=ldc hg rfl
 rw [G6]
 by_cases hlen:a+t.length≤s.length
 ·have sl:∀h,eF (.str s) (some (.int .i64 (a:Int))) (some (.int .i64 ((a:Int)+(t.length:Int)))) h=.ok (.str ((s.drop a).take t.length)) h:=fun h=>by
   have:=slc (a:=a) (b:=a+t.length) (s:=s) (by omega) (by omega) h
   rw [show((a+t.length:Nat):Int)=(a:Int)+(t.length:Int) by omega] at this
   rw [this,show a+t.length - a=t.length by omega]
  have d:decide ((s.drop a).take t.length≠t)=true:=decide_eq_true fun e=>h1 ⟨hlen,e⟩
  simp (disch:=omega) only [vmL,Nat.reduceEqDiff,reduceCtorEq,↓reduceIte,vpL,vsL,vqL,wo,uh,ug,yT,L0,L1,sl]
  rw [show decide (¬(s.drop a).take t.length=t)=true from d]
  simp only [vmL,Nat.reduceEqDiff,reduceCtorEq,↓reduceIte,vpL,vsL,vqL,bD,fG,gB]
 ·simp (disch:=omega) only [vmL,Nat.reduceEqDiff,reduceCtorEq,↓reduceIte,vpL,vsL,vqL,wo,uh,ug,yT,L0,L1]
  simp only [bD,fG,vmL,Nat.reduceEqDiff,reduceCtorEq,↓reduceIte,vpL,vsL,vqL,gB]
end
end Go.Proofs.Jm
noncomputable section
namespace Go.Proofs.Jm
open Go Go.Proofs Go.Vm
set_option maxRecDepth 100000
def okC(c:Nat):Prop:=32≤c∧c<128∧c≠34∧c≠92
section
variable{h:Hp}{p:Pos}{ty:TypeId}{s t:List Nat}{a:Nat}{x:V}
theorem JM(hg:h.get p=some (.cells (.rw ty true) [.str s,.int .i64 (a:Int),x]))(h1:a+t.length≤s.length)(h2:(s.drop a).take t.length=t)(hl:s.length<1000000000):
  nM [.ptr p 0,.str t] h=.ok (.tuple .nil) (h.put p (some (.cells (.rw ty true) [.str s,.int .i64 ((a:Int)+(t.length:Int)),x]))):=by
 rw [ami]
 simp (disch:=omega) only [vmL,Nat.reduceEqDiff,reduceCtorEq,↓reduceIte,vpL,vsL,vqL,SL,Pn,Ee hg h1 h2 hl]
 simp only [bD,fG,vmL,Nat.reduceEqDiff,reduceCtorEq,↓reduceIte,vpL,vsL,vqL,gB]
 rfl
theorem drop_at{s:List Nat}{a:Nat}{q r:List Nat}(h:s.drop a=q++r){k:Nat}:s.drop (a+k)=(q++r).drop k:=by rw [←h,List.drop_drop]
theorem mM{s:List Nat}{a c:Nat}{r:List Nat}(h:s.drop a=c::r):s[a]?=some c:=by
 have:=congrArg List.head? h
 rw [List.head?_drop] at this
 exact this
theorem Jo{s:List Nat}{a c:Nat}{r:List Nat}(h:s.drop a=c::r):a+ [c].length≤s.length∧(s.drop a).take [c].length= [c]:=by
 have:=(List.getElem?_eq_some_iff.1 (mM h)).1
 exact⟨by simp;omega,by rw [h];rfl⟩
theorem TG{q r:List Nat}(hg:h.get p=some (.cells (.rw ty true) [.str s,.int .i64 (a:Int),x]))(hp:p.nat<h.next.nat)(h1:s.drop a=34::(q++34::r))(hq:∀c∈q,okC c)(hl:s.length<1000000000):
  ∃y h1,rG [.ptr p 0] h=.ok y h1∧y=.str q∧Ch (fun j=>j=p) h h1∧h1.get p=some (.cells (.rw ty true) [.str s,.int .i64 ((a+(q.length+2):Nat):Int),x]):=by
 have hlen:a+1+q.length+1+r.length=s.length:=by
  have:=congrArg List.length h1
  simp at this
  omega
 have hd:s.drop (a+1)=q++34::r:=by rw [←List.drop_drop,h1];rfl
 obtain⟨m1,m2⟩:=Jo h1
 have M0:=JM hg m1 m2 hl
 rw [amj]
 show jy Tryz.prog _ (fun y h1=>y=.str q∧Ch (fun j=>j=p) h h1∧h1.get p=some (.cells (.rw ty true) [.str s,.int .i64 ((a+(q.length+2):Nat):Int),x])) _
 simp (disch:=omega) only [vmL,Nat.reduceEqDiff,reduceCtorEq,↓reduceIte,vpL,vsL,vqL,SN,PD,Pz,Py,M0]
 rw [←amx (o9 0 _)]
 refine Oc.then (lq (n:=q.length+1) (fun m fr g=>∃(k:Nat) (v:V),fr.get (Pos.of 0)=some (.ptr p 0)∧fr.get (Pos.of 3)=some v∧Ow h.next.nat g tB 1 v k (bys (q.take k))∧k+m=q.length+1∧k≤q.length∧Ch (fun j=>j=p) h g∧
   g.get p=some (.cells (.rw ty true) [.str s,.int .i64 ((a+1+k:Nat):Int),x]))
  (A:=fun _ _=>False) (B:=fun fr g=>fr.get (Pos.of 2)=some (.str q)∧Ch (fun j=>j=p) h g∧g.get p=some (.cells (.rw ty true) [.str s,.int .i64 ((a+(q.length+2):Nat):Int),x])) (by rw [sS];omega) ?_ ?_) ?_ ?_
 ·exact⟨0,.af,by simp only [vmL,Nat.reduceEqDiff,reduceCtorEq,↓reduceIte,vpL,vsL,vqL],by simp only [vmL,Nat.reduceEqDiff,reduceCtorEq,↓reduceIte,vpL,vsL,vqL],Ow.nil _ _ _ _,by omega,by omega,Ch.put _ _ rfl,by rw [iq];simp⟩
 ·rintro m fr g ⟨k,v,f0,f3,ov,hk,hkq,cg,gp⟩
  have L0:aW (.ptr p 0) g=.ok (.str s) g:=ldc gp rfl
  have L1:aW (.ptr p 1) g=.ok (.int .i64 ((a+1+k:Nat):Int)) g:=ldc gp rfl
  have dk:s.drop (a+1+k)=(q++34::r).drop k:=drop_at hd
  have e0:decide (((a+1+k:Nat):Int)=(s.length:Int))=false:=decide_eq_false (by omega)
  have hn:=cg.next
  by_cases hz:k=q.length
  ·subst hz
   rw [List.drop_left] at dk
   have ix:∀h,bU (.str s) (.int .i64 ((a+1+q.length:Nat):Int)) h=.ok (.int .u8 ((34:Nat):Int)) h:=fun h=>gm (mM dk)
   obtain⟨n1,n2⟩:=Jo dk
   have M1:=Ee gp n1 n2 hl
   have gv:∀i,dO v=some i→(g.put p (some (.cells (.rw ty true) [.str s,.int .i64 (((a+1+q.length:Nat):Int)+(([34]:List Nat).length:Int)),x]))).get i=g.get i:=fun i hi=>oN _ (by have:=(ov.vN hi).1;omega) _
   rw [List.take_length] at ov
   have B1:=vw ov.sl (fun c hc=>by have:=(hq c hc).2.1;omega) gv
   simp (disch:=omega) only [vmL,Nat.reduceEqDiff,reduceCtorEq,↓reduceIte,vpL,vsL,vqL,zi,yS,yR,vY,Gl,f0,f3,L0,L1,e0,ix,M1,B1,Int.reduceLT]
   refine⟨by simp only [vmL,Nat.reduceEqDiff,reduceCtorEq,↓reduceIte,vpL,vsL,vqL],cg.trans (Ch.put (S:=fun j=>j=p) _ _ rfl) fun _ _ q=>q,?_⟩
   rw [iq]
   simp
   omega
  ·have hlt:k<q.length:=by omega
   rw [List.drop_append_of_le_length (by omega),List.drop_eq_getElem_cons hlt] at dk
   have hc:=hq _ (List.getElem_mem hlt)
   have htk:q.take (k+1)=q.take k++ [q[k]]:=by rw [List.take_add_one,List.getElem?_eq_getElem hlt];rfl
   generalize q[k]=c at dk hc htk
   have dk':s.drop (a+1+k)=c::(q.drop (k+1)++34::r):=dk
   have ix:∀h,bU (.str s) (.int .i64 ((a+1+k:Nat):Int)) h=.ok (.int .u8 ((c:Nat):Int)) h:=fun h=>gm (mM dk')
   have N1:=JS (t:= [34]) gp (fun e=>by have:=e.2;rw [dk'] at this;simp at this;exact hc.2.2.1 this) hl (by omega) (by simp)
   have N2:=JS (t:= [92]) gp (fun e=>by have:=e.2;rw [dk'] at this;simp at this;exact hc.2.2.2 this) hl (by omega) (by simp)
   obtain⟨g1,e1,c1⟩:=F5 (mM dk') hc.2.1 hl g
   have gp1:=(c1.get p (by omega) fun q=>q).trans gp
   have L0':aW (.ptr p 0) g1=.ok (.str s) g1:=ldc gp1 rfl
   have L1':aW (.ptr p 1) g1=.ok (.int .i64 ((a+1+k:Nat):Int)) g1:=ldc gp1 rfl
   have sl:∀h,eF (.str s) (some (.int .i64 ((a+1+k:Nat):Int))) (some (.int .i64 (((a+1+k:Nat):Int)+1))) h=.ok (.str [c]) h:=fun h=>by
    have:=slc (a:=a+1+k) (b:=a+1+k+1) (s:=s) (by omega) (by omega) h
    rw [show((a+1+k+1:Nat):Int)=((a+1+k:Nat):Int)+1 by omega] at this
    rw [this,dk',show a+1+k+1 - (a+1+k)=1 by omega]
    rfl
   have ov1:Ow h.next.nat g1 tB 1 v k (bys (q.take k)):=ov.ch c1 fun _ _ q=>q
   obtain⟨v',g2,e2,ov2,c2,-⟩:=YK (bt:=1) (t:= [c]) ov1 (by have:=c1.next;omega) (by simp;omega)
   have gp2:g2.get p=some (.cells (.rw ty true) [.str s,.int .i64 ((a+1+k:Nat):Int),x]):=(c2.get p (by have:=c1.next;omega) fun q=>by have:=(ov1.vN q).1;omega).trans gp1
   have S2:cZ 1 (.ptr p 1) (.int .i64 (((a+1+k:Nat):Int)+1)) g2=.ok V.undef (g2.put p (some (.cells (.rw ty true) [.str s,.int .i64 (((a+1+k:Nat):Int)+1),x]))):=qA gp2 ⟨rfl,rfl⟩ (by simp)
   have d1:decide ((c:Int)<32)=false:=decide_eq_false (by have:=hc.1;omega)
   have d2:decide ((c:Int)<0)=false:=decide_eq_false (by omega)
   simp (disch:=omega) only [vmL,Nat.reduceEqDiff,reduceCtorEq,↓reduceIte,vpL,vsL,vqL,zi,yS,yR,vY,Gj,Px,Pv,Pq,Po,f0,f3,L0,L1,e0,ix,d1,d2,N1,N2,e1,L0',L1',sl,e2,S2]
   have cAll:Ch (fun j=>j=p) h (g2.put p (some (.cells (.rw ty true) [.str s,.int .i64 (((a+1+k:Nat):Int)+1),x]))):=
    ((cg.trans (c1.mono fun _ _ q=>q.elim) fun _ _ q=>q).trans c2 fun j hj q=>by have:=(ov1.vN q).1;omega).trans (Ch.put (S:=fun j=>j=p) _ _ rfl) fun _ _ q=>q
   refine⟨m - 1,by omega,k+1,v',by simp only [vmL,Nat.reduceEqDiff,reduceCtorEq,↓reduceIte,vpL,vsL,vqL,f0],by simp only [vmL,Nat.reduceEqDiff,reduceCtorEq,↓reduceIte,vpL,vsL,vqL],?_,by omega,by omega,cAll,by rw [iq];simp;omega⟩
   rw [htk]
   exact ov2.ch (Ch.put (S:=fun j=>j=p) _ _ rfl) fun i hi e=>by have:=(ov2.vN hi).1;rw [e] at this;omega
 ·intro fr g q;exact q.elim
 ·rintro fr g ⟨f2,cg,gp⟩
  exact jy.ret (by simp only [fG,vmL,Nat.reduceEqDiff,reduceCtorEq,↓reduceIte,vpL,vsL,vqL,f2,gB]) ⟨rfl,cg,gp⟩
end
end Go.Proofs.Jm
