/- Lemmas that the claim's last text uses. No conditions. -/
import Derived.Test.YtpgppmioigacoaaGreatDoorSAT
import Derived.Test.YtpgppmioigacoaaGreatDoorSAS
set_option linter.all false
set_option maxRecDepth 100000
open List renaming getElem?_eq_some_iff→a!,getElem?_eq_getElem→b!,mem_of_getElem?→c!,take_length→d!,length_map→e!,length_append→h!,findIdx?_cons→i!,mem_append→k!,mem_or_eq_of_mem_set→l!,getElem?_append_left→n!,take_add_one→o!,map_append→r!,mem_singleton→t!,getElem?_take→u!,getElem?_drop→v!,mem_map→w!,eraseIdx_eq_take_drop_succ→x!,length_set→z!,length_filter_le→C!,mem_of_mem_take→F!,findIdx?_append→G!,filter_append→I!,append_assoc→J!,length_take→K!,any→N!
open Go.Vm.Pos renaming of→g!
open Bool renaming and_eq_true→j!,not_eq_true→L!
open Nat renaming ble→p!,le_refl→y!,ble_eq→A!,zero_add→B!,le_of_ble_eq_true→D!,ble_eq_true_of_le→E!,zero_le→H!
open Go.Proofs.Tryz renaming prog→q!
open Go.Vm.V renaming int→Y,ptr→X,bool→K,str→H
open Go.IntKind renaming i64→U
open Go.Vm.Ob renaming cells→O
open Go.Vm.Wr renaming rw→N
open Go.Vm.R renaming ok→D
noncomputable section
open Go Go.Proofs Go.Vm Go.Im
namespace Go.Proofs.Im
section
variable{h h' g:Hp}{P:Pos->Prop}{pl p:Pos}{A:Acc}{vl:V}
abbrev zEn:List V:= [(Y U 0),(Y U 0),(Y U 0),(Y U 0)]
theorem aO6(x:En):eu tEn zEn 1 [(0,4,.agg (V.ofList (iR x)))]=some (O (N tEn true) (iR x),λp=>.slice p 0 1 (.kn 1)):=(rfl)
theorem au0{v:V}{f c:Int}{ents es:List En}(lg:Kn h pl (O (N tLg true) [iV 10000,vl,iV f]))(o:dA 0 (λ_=>False) (flat iR) tEn 4 h vl ents)(r:Rws P (flat iR) 4 h v es)
  (ag:∀j,bC vl=some j->j≠pl) (hP:∀j:Pos,j.nat<h.next.nat->P j->j≠pl/\bC vl≠some j) (hc:∀e∈es,e.mod=c) (hl:∀e∈ents,e.mod<=c) (hn:ents.length+es.length<=10000):
  ∃u h' a,Ll [X pl 0,v] h=D u h'/\Kn h' pl (O (N tLg true) [iV 10000,a,iV f])/\dA 0 (λ_=>False) (flat iR) tEn 4 h' a (ents++es)/\Ch (λj=>j=pl\/bC vl=some j) h h'/\
   (∀j,bC a=some j->bC vl=some j\/h.next.nat<=j.nat):=by
 rw[axF]
 suffices T:aW q! [] (λu h'=>∃a,Kn h' pl (O (N tLg true) [iV 10000,a,iV f])/\dA 0 (λ_=>False) (flat iR) tEn 4 h' a (ents++es)/\Ch (λj=>j=pl\/bC vl=some j) h h'/\(∀j,bC a=some j->bC vl=some j\/h.next.nat<=j.nat))
   (abo (T.set (some v) (g! 1) (T.set (some (X pl 0)) (g! 0) T.nil)) h) by
  obtain⟨u,h',e,a,q⟩:=T;exact⟨u,h',a,e,q⟩
 simp only[vvB,seval,abo,anD,anC,anZ,fD,r.len];have aj:=lg.2;refine Oc.then (dK (σ:=V) (n:=es.length) (pi:=12) (pn:=11) (pc:=13) [0,10] (λ_=> [X pl 0,v])
  (λk w g=>Kn g pl (O (N tLg true) [iV 10000,w,iV f])/\dA 0 (λ_=>False) (flat iR) tEn 4 g w (ents++es.take k)/\Ch (λj=>j=pl\/bC vl=some j) h g/\(∀j,bC w=some j->(bC vl=some j\/h.next.nat<=j.nat)/\j≠pl))
  (A:=λfr g=>fr.get (g! 0)=some (X pl 0)/\∃w,Kn g pl (O (N tLg true) [iV 10000,w,iV f])/\dA 0 (λ_=>False) (flat iR) tEn 4 g w (ents++es)/\Ch (λj=>j=pl\/bC vl=some j) h g/\(∀j,bC w=some j->bC vl=some j\/h.next.nat<=j.nat)) (B:=λ_ _=>False) (s:=vl)
  (λfr h _ k e1 e2=>by simp only[vvB,seval,anB,e1,e2]) (λfr h k _ e1=>by simp(disch:=omega)only[vvB,seval,anA,e1]) (by decide) (by rw[dO];omega) (qK0) (qK0) (by simp only[Fa,vvB,seval,and_self])
  ⟨lg,by simpa using o,Ch.refl _ _,λj q=>⟨.inl q,ag j q⟩⟩ ?_ ?_) ?_ ?_
 ·intro k w fr g hk t af fa hI;obtain⟨f0,d,-⟩:=fa;obtain⟨G,J,m,L⟩:=hI;obtain⟨x,hx⟩:∃x,es[k]?=some x:=⟨_,b! hk⟩
  have ak:=hc x (c! hx);obtain⟨i,q,cs,e1,e2,-,-,-,-,e3⟩:=(r.ch (P':=P) (aK _) m λj W pj=>⟨pj,λe=>e.elim (hP j W pj).1 (hP j W pj).2⟩).elt hx;obtain rfl:cs=iR x:=e2;have Q:=e3 g rfl;obtain⟨l,C⟩:∃l,l=g.new (O (N tEn true) (iR x)):=⟨_,rfl⟩
  have S2:aQ 4 (X g.next 0) (.agg (V.ofList (iR x))) (g.new (O (N tEn true) zEn))=D V.undef l:=by rw[C];exact ig (V.dG _) rfl rfl
  have c2:Nw g l:=by rw[C];exact Nw.new _ _
  have k2:Kn l g.next (O (N tEn true) (iR x)):=by rw[C];exact Kn.new _ _
  have I:=G.nw c2;have L2:=I.ld (q:=1) (x:=w) rfl;have M2:=k2.ld (q:=0) (x:=iV x.mod) rfl;have o2:=J.nw (aK _) c2;have b:(ents++es.take k).length=ents.length+k:=by simp;omega
  have M:=o2.len l;rw[b]at M;obtain⟨w',g3,e5,o5,c5,n5,Z⟩:=o2.ao0 (bt:=32) (x:=x) (H! _) rfl (by rw[b];omega);have k5:=I.ch c5 λe=>(L pl e).2 rfl;obtain⟨S,E⟩:∃S,S=g3.put pl (some (O (N tLg true) [iV 10000,w',iV f])):=⟨_,rfl⟩
  have S4:aQ 1 (X pl 1) w' g3=D V.undef S:=by rw[E];exact k5.st (q:=1) o5.cell (show 1<3 by omega)
  have k4:Kn S pl (O (N tLg true) [iV 10000,w',iV f]):=by rw[E];exact k5.put _
  have c4:Ch (λj=>j=pl) g3 S:=by rw[E];exact Ch.put _ _ rfl
  have ai:=m.next;have n2:=c2.next;have aa:=(I.bump 1).ld (q:=1) (x:=w) rfl;have ab:=(k2.bump 1).ldN (n:=4) rfl;have fin:Rd [0,10] (λ(_:V)=> [X pl 0,v]) 12 11 k es.length (λw g=>Kn g pl (O (N tLg true) [iV 10000,w,iV f])/\dA 0 (λ_=>False) (flat iR) tEn 4 g w (ents++es.take (k+1))/\Ch (λj=>j=pl\/bC vl=some j) h g/\(∀j,bC w=some j->(bC vl=some j\/h.next.nat<=j.nat)/\j≠pl))
    (λfr g=>fr.get (g! 0)=some (X pl 0)/\∃w,Kn g pl (O (N tLg true) [iV 10000,w,iV f])/\dA 0 (λ_=>False) (flat iR) tEn 4 g w (ents++es)/\Ch (λj=>j=pl\/bC vl=some j) h g/\(∀j,bC w=some j->bC vl=some j\/h.next.nat<=j.nat)) (λ_ _=>False) 0
    (Bz 1 (aaM (T.set (some (K false)) (g! 36) (T.set (some (Y U ((ents.length+k:Nat):Int))) (g! 6) (T.set (some (X g.next 0)) (g! 5) fr))) l)):=by
   simp only[vvB,seval,aaM,f0,aa,ab,aO6,e5,S4];refine⟨qK2 t,qK2 af,w',by simp only[Fa,vvB,seval,f0,d,and_self],k4,?_,?_,?_⟩
   ·rw[take_snoc hx,<-J!];exact o5.ch (aK _) c4 (λj W e=>by have:=Z j W;rw[e]at this;omega) λ_ _ q=>q.elim
   ·exact((m.nw c2).trans c5 λj W e=>by have:=(L j e).1;rcases this with q|q;exact .inr q;omega).trans c4 λj _ e=>.inl e
   ·intro j e;have:=Z j e;exact⟨.inr (by omega),λe'=>by rw[e']at this;omega⟩
  by_cases hz:ents.length+k=0
  ·simp(disch:=omega)only[vvB,seval,aaP,aaO,aaN,f0,d,t,e1,Q,S2,L2,M];exact fin
  ·obtain⟨y,hy⟩:∃y,(ents++es.take k)[ents.length+k - 1]?=some y:=⟨_,b! (by rw[b];omega)⟩
   have al:y.mod<=c:=by
    rcases k!.1 (c! hy) with q|q
    ·exact hl y q
    ·rw[hc y (F! q)];omega
   obtain⟨i',q',ac,ad,ae,-,-,-,ah,-⟩:=o2.aLp.elt hy;obtain rfl:ac=iR y:=ae;have l3:=ah l rfl 0 (iV y.mod) rfl;have hd:decide (x.mod<y.mod)=false:=decide_eq_false (by omega);have z:((ents.length+k:Nat):Int) - 1=((ents.length+k - 1:Nat):Int):=by omega
   simp(disch:=omega)only[vvB,seval,aaP,aaO,aaN,f0,d,t,e1,Q,S2,L2,M2,M,z,ad,l3,hd];exact fin
 ·intro w fr g fa hI;obtain⟨f0,d,-⟩:=fa;obtain⟨G,J,m,L⟩:=hI;rw[d!]at J;exact⟨f0,w,G,J,m,λj e=>(L j e).1⟩
 ·rintro fr g ⟨f0,w,G,J,m,L⟩;have L1:=G.ld (q:=1) (x:=w) rfl;have L0:=G.ld (q:=0) (x:=iV 10000) rfl;have M:=J.len g;rw[h!]at M;simp(disch:=omega)only[vvB,seval,anz,anx,f0,L1,L0,M];exact⟨_,g,rfl,w,G,J,m,L⟩
 ·intro fr g q;exact q.elim
end
end Go.Proofs.Im
namespace Go.Vm
theorem aN3{h:Hp}(x y:Int×Int):agT .eql [((.int U),0),((.int U),1)] (.agg (V.ofList (Go.Im.dY x))) (.agg (V.ofList (Go.Im.dY y))) h=D (K (decide (x=y))) h:=by
 refine(SG _ _ _ _).trans ?_;congr 2;obtain⟨a,b⟩:=x;obtain⟨c,d⟩:=y;simp[Prod.ext_iff]
end Go.Vm
namespace Go.Proofs.Im
section
variable{h h' g:Hp}{P:Pos->Prop}{A:Acc}{v:V}
theorem apl{P:Pos->Prop}{h:Hp}{v:V}{l:List (List Nat)}(r:Rws P (flat fF) 1 h v l)(x:(List Nat))(J:l.length<=1000000000):
  ∃h',xG [v,H x] h=D (Y U (gy (l.findIdx? λa=>decide (x=a)))) h'/\Nw h h':=by
 rw[adT]
 suffices T:aW q! [.tmp 4] (λr h'=>r=Y U (gy (l.findIdx? λa=>decide (x=a)))/\Nw h h') (xq (T.set (some (H x)) (g! 1) (T.set (some v) (g! 0) T.nil)) h) by
  obtain⟨r,h',e,rfl,c⟩:=T;exact⟨h',e,c⟩
 obtain⟨d,f⟩:∃d,d=h:=⟨_,rfl⟩
 have m:Nw h d:=by rw[f];exact Nw.refl _
 subst f;simp(disch:=omega)only[vvB,seval,xq,Nl,Nk,r.len,NZ];refine Oc.then (dK (σ:=Unit) (n:=l.length) (pi:=8) (pn:=7) (pc:=9) [0,1] (λ_=> [v,H x]) (λk _ g=>g=d/\(l.take k).findIdx? (λa=>decide (x=a))=none)
  (A:=λfr g=>g=d/\l.findIdx? (λa=>decide (x=a))=none) (B:=λfr g=>fr.get (g! 4)=some (Y U (gy (l.findIdx? λa=>decide (x=a))))/\g=d) (s:=())
  (λfr h _ k e1 e2=>by simp only[vvB,seval,Nj,e1,e2]) (λfr h k _ e1=>by simp(disch:=omega)only[vvB,seval,MX,e1]) (by decide) (by rw[dO];omega) (qK0) (qK0) (by simp only[Fa,vvB,seval,and_self]) ⟨rfl,by simp⟩ ?_ ?_) ?_ ?_
 ·intro k _ fr g E o C u p;obtain⟨f0,f1,-⟩:=u;obtain⟨rfl,b⟩:=p;obtain⟨y,t⟩:∃y,l[k]?=some y:=⟨_,b! E⟩
  obtain⟨i,q,cs,e1,ex,I,hi,-,e2,G⟩:=(r.nw (aK _) m).elt t;obtain rfl:cs=fF y:=ex;have w:aF (X i q) g=D (H y) g:=e2 g rfl 0 _ rfl;simp(disch:=omega)only[vvB,seval,Nh,Nc,f0,f1,o,e1,w];by_cases j:x=y
  ·simp only[vvB,seval,j,MZ];refine⟨?_,rfl⟩;simp only[vvB,seval];rw[lY t (by rw[<-j];exact b) (by simp)];rfl
  ·simp only[vvB,seval,j];refine⟨qK2 o,qK2 C,(),by simp only[Fa,vvB,seval,f0,f1,and_self],rfl,?_⟩;rw[o!,t];simp[G!,b,j]
 ·intro _ fr g u p;obtain⟨rfl,b⟩:=p;rw[d!]at b;exact⟨rfl,b⟩
 ·rintro fr g ⟨rfl,b⟩;simp only[vvB,seval,MW];exact aW.ret (qT0) ⟨by rw[b];rfl,m⟩
 ·rintro fr g ⟨z,rfl⟩;exact aW.ret (qT1 z) ⟨rfl,m⟩
theorem apm{P:Pos->Prop}{h:Hp}{v:V}{l:List (Int×Int)}(r:Rws P (flat dY) 2 h v l)(x:(Int×Int))(M:l.length<=1000000000):
  ∃h',xH [v,.agg (V.ofList (dY x))] h=D (Y U (gy (l.findIdx? λa=>decide (x=a)))) h'/\Nw h h':=by
 rw[adU]
 suffices T:aW q! [.tmp 4] (λr h'=>r=Y U (gy (l.findIdx? λa=>decide (x=a)))/\Nw h h') (xu (T.set (some (V.agg (V.ofList (dY x)))) (g! 1) (T.set (some v) (g! 0) T.nil)) h) by
  obtain⟨r,h',e,rfl,c⟩:=T;exact⟨h',e,c⟩
 obtain⟨m,p,f,J⟩:=mkW h (O (N tMb true) (dY x));have w:=J.ldN (n:=2) rfl;simp(disch:=omega)only[vvB,seval,xu,Nz,Ny,r.len,N7,V.bW,<-p];refine Oc.then (dK (σ:=Unit) (n:=l.length) (pi:=8) (pn:=7) (pc:=9) [0,3] (λ_=> [v,X h.next 0]) (λk _ g=>g=m/\(l.take k).findIdx? (λa=>decide (x=a))=none)
  (A:=λfr g=>g=m/\l.findIdx? (λa=>decide (x=a))=none) (B:=λfr g=>fr.get (g! 4)=some (Y U (gy (l.findIdx? λa=>decide (x=a))))/\g=m) (s:=())
  (λfr h _ k e1 e2=>by simp only[vvB,seval,Nv,e1,e2]) (λfr h k _ e1=>by simp(disch:=omega)only[vvB,seval,Nq,e1]) (by decide) (by rw[dO];omega) (qK0) (qK0) (by simp only[Fa,vvB,seval,and_self]) ⟨rfl,by simp⟩ ?_ ?_) ?_ ?_
 ·intro k _ fr g I j G u o;obtain⟨f0,f1,-⟩:=u;obtain⟨rfl,b⟩:=o;obtain⟨y,t⟩:∃y,l[k]?=some y:=⟨_,b! I⟩
  obtain⟨i,q,cs,e1,ex,L,hi,-,e2,z⟩:=(r.nw (aK _) f).elt t;obtain rfl:cs=dY y:=ex;have C:=z g rfl;simp(disch:=omega)only[vvB,seval,Nu,Ns,f0,f1,j,e1,C,w,aN3];by_cases d:x=y
  ·simp only[vvB,seval,d,Nr];refine⟨?_,rfl⟩;simp only[vvB,seval];rw[lY t (by rw[<-d];exact b) (by simp)];rfl
  ·simp only[vvB,seval,d];refine⟨qK2 j,qK2 G,(),by simp only[Fa,vvB,seval,f0,f1,and_self],rfl,?_⟩;rw[o!,t];simp[G!,b,d]
 ·intro _ fr g u o;obtain⟨rfl,b⟩:=o;rw[d!]at b;exact⟨rfl,b⟩
 ·rintro fr g ⟨rfl,b⟩;simp only[vvB,seval,Np];exact aW.ret (qT0) ⟨by rw[b];rfl,f⟩
 ·rintro fr g ⟨E,rfl⟩;exact aW.ret (qT1 E) ⟨rfl,f⟩
theorem P6{l:List (List Nat)}(r:Rws P (flat fF) 1 h v l)(x:List Nat)(d:l.length<=1000000000):∃h',nP [v,H x] h=D (K (l.any λa=>decide (x=a))) h'/\Nw h h':=by
 obtain⟨c,e1,b⟩:=apl r x d;rw[XB];simp(disch:=omega)only[vvB,seval,yH,FH,FD,e1];exact⟨c,by simp only[aU,cO,vvB,seval,dn];rw[Ef],b⟩
theorem ahz{l:List (Int×Int)}(r:Rws P (flat dY) 2 h v l)(x:Int×Int)(f:l.length<=1000000000):∃h',kV [v,.agg (V.ofList (dY x))] h=D (K (l.any λa=>decide (x=a))) h'/\Nw h h':=by
 obtain⟨h0,b,c,i⟩:=mkW h (O (N tMb true) (dY x));obtain⟨e,e1,d⟩:=apm (r.nw (aK _) c) x f;rw[XC];simp(disch:=omega)only[vvB,seval,yI,FK,FI,V.bW,<-b,i.ldN (n:=2) rfl,e1];exact⟨e,by simp only[aU,cO,vvB,seval,dn];rw[Ef],c.trans d⟩
theorem apW{P':Pos->Prop}{w:V}{l m:List (List Nat)}(r:Rws P (flat fF) 1 h v l)(s:Rws P' (flat fF) 1 h w m)(Q:l.length<=1000000000):xI [v,w] h=D (K (decide (l=m))) h:=by
 rw[adV]
 suffices T:aW q! [.tmp 4] (λr h'=>r=K (decide (l=m))/\h'=h) (qJ (T.set (some w) (g! 1) (T.set (some v) (g! 0) T.nil)) h) by
  obtain⟨r,h',e,rfl,rfl⟩:=T;exact e
 by_cases a:l.length=m.length
 ·have d:¬((l.length:Int)≠(m.length:Int)):=by omega
  simp(disch:=omega)only[vvB,seval,qJ,Ac,Aa,NK,r.len,s.len,N8,a];refine Oc.then (dK (σ:=Unit) (n:=m.length) (pi:=13) (pn:=12) (pc:=14) [0,1] (λ_=> [v,w]) (λk _ g=>g=h/\l.take k=m.take k)
   (A:=λfr g=>g=h/\l=m) (B:=λfr g=>fr.get (g! 4)=some (K (decide (l=m)))/\g=h) (s:=())
   (λfr h _ k e1 e2=>by simp only[vvB,seval,NJ,e1,e2]) (λfr h k _ e1=>by simp(disch:=omega)only[vvB,seval,NE,e1]) (by decide) (by rw[dO];omega) (qK0) (qK0) (by simp only[Fa,vvB,seval,and_self]) ⟨rfl,by simp⟩ ?_ ?_) ?_ ?_
  ·intro k _ fr g L c u C b;obtain⟨f0,f1,-⟩:=C;obtain⟨rfl,b⟩:=b;obtain⟨x,j⟩:∃x,l[k]?=some x:=⟨_,b! (by omega)⟩
   obtain⟨y,z⟩:∃y,m[k]?=some y:=⟨_,b! L⟩
   obtain⟨i,q,cs,e1,ex,-,-,-,e2,-⟩:=r.elt j;obtain rfl:cs=fF x:=ex;obtain⟨i',M,o,p,I,-,-,-,t,-⟩:=s.elt z;obtain rfl:o=fF y:=I;have E:aF (X i q) g=D (H x) g:=e2 g rfl 0 _ rfl;have G:aF (X i' M) g=D (H y) g:=t g rfl 0 _ rfl;simp(disch:=omega)only[vvB,seval,NI,NH,f0,f1,c,e1,p,E,G];by_cases f:x=y
   ·have S:¬(x≠y):=λq=>q f;simp only[vvB,seval,f];refine⟨qK2 c,qK2 u,(),by simp only[Fa,vvB,seval,f0,f1,and_self],rfl,?_⟩;rw[o!,o!,j,z,b,f]
   ·simp only[vvB,seval,f,NG];refine⟨?_,rfl⟩;simp only[vvB,seval];rw[decide_eq_false];intro e;rw[e,z]at j;exact f (Option.some.inj j).symm
  ·intro _ fr g C b;obtain⟨rfl,b⟩:=b;rw[d!,<-a,d!]at b;exact⟨rfl,b⟩
  ·rintro fr g ⟨rfl,b⟩;simp only[vvB,seval,ND];exact aW.ret (qT0) ⟨by rw[decide_eq_true b],rfl⟩
  ·rintro fr g ⟨J,rfl⟩;exact aW.ret (qT1 J) ⟨rfl,rfl⟩
 ·have d:((l.length:Int)=(m.length:Int))=False:=eq_false (by omega);simp(disch:=omega)only[vvB,seval,qJ,Ac,Aa,NM,r.len,s.len,d];exact aW.ret (qT0) ⟨by rw[decide_eq_false λe=>a (by rw[e])],rfl⟩
end
end Go.Proofs.Im
namespace Go.Vm
def Gv(c:Nat):Bool:=p! 33 c&&p! c 126&&!decide (Eg c [40,41,123,125,37,42,34,92,93]>=0)
def U5(s:List Nat):Bool:=s.all Gv&&!decide (s= [])
def XL(s:List Nat):Bool:=U5 s&&p! s.length 64&&decide (foldM s=s)
end Go.Vm
namespace Go.Proofs.Im
section
variable{h h' g:Hp}{P:Pos->Prop}{A:Acc}{v:V}
theorem Yx{s:List Nat}{c:Nat}(a:c<256):Bf [H s,Y .u8 (c:Int)] h=D (Y U (Eg c s)) h:=by
 have e:xK [H s,Y .u8 (c:Int)] h=D (Y U (Eg c s)) h:=by
  show(match Nat.blt c 256 with|true=>jd U (Eg c s) h|false=>.bad)=_;rw[show Nat.blt c 256=true by rw[Nat.blt_eq];exact a];exact iq _ _ _
 rw[ahw];have e2:Bc [H s,Y .u8 (c:Int)] h=D (Y U (Eg c s)) h:=by
  rw[ahv];simp only[vvB,seval,KX,Tt,Tq,e];simp only[aU,cO,vvB,seval,dn]
 simp only[vvB,seval,KY,TK,TJ,e2];simp only[aU,cO,vvB,seval,dn]
theorem aeQ{s:List Nat}(hl:s.length<1000000000)(u:∀c∈s,c<256):wG [H s] h=D (K (U5 s)) h:=by
 rw[avT]
 suffices T:aW q! [.tmp 2] (λr h'=>r=K (U5 s)/\h'=h) (VJ (T.set (some (H s)) (g! 0) T.nil) h) by
  obtain⟨r,h',e,rfl,rfl⟩:=T;exact e
 simp(disch:=omega)only[vvB,seval,VJ,aii,aif,ajK];refine Oc.then (dK (σ:=Unit) (n:=s.length) (pi:=6) (pn:=5) (pc:=7) [0] (λ_=> [H s]) (λk _ g=>g=h/\(s.take k).all Gv=true)
  (A:=λfr g=>fr.get (g! 0)=some (H s)/\g=h/\s.all Gv=true) (B:=λfr g=>fr.get (g! 2)=some (K (U5 s))/\g=h) (s:=())
  (λfr h _ k e1 e2=>by simp only[vvB,seval,aie,e1,e2]) (λfr h k _ e1=>by simp(disch:=omega)only[vvB,seval,aid,e1]) (by decide) (by rw[dO];omega) (qK0) (qK0) (by simp only[Fa,vvB,seval,and_self]) ⟨rfl,by simp⟩ ?_ ?_) ?_ ?_
 ·intro k _ fr g t d q m b;obtain⟨f0,-⟩:=m;obtain⟨rfl,b⟩:=b;obtain⟨c,j⟩:∃c,s[k]?=some c:=⟨_,b! t⟩
  have a:=u c (c! j);have ex:kG (H s) (Y U (k:Int)) g=D (Y .u8 (c:Int)) g:=QB j;have bad:Gv c=false->fr.get (g! 6)=fr.get (g! 6)->U5 s=false:=λe _=>by
   unfold U5;rw[show s.all Gv=false from ?_];rfl;rw[List.all_eq_false];exact⟨c,c! j,by rw[e];simp⟩
  by_cases x:c<33
  ·have f:((c:Int)<33)=True:=eq_true (by omega);simp(disch:=omega)only[vvB,seval,CJ,CG,LQ,f0,d,ex,f];exact⟨by simp only[vvB,seval];rw[bad (by unfold Gv;rw[show p! 33 c=false by rw[<-L!,A!];omega];rfl) rfl],rfl⟩
  ·have f:((c:Int)<33)=False:=eq_false (by omega);by_cases y:126<c
   ·have l:((c:Int)>126)=True:=eq_true (by omega);simp(disch:=omega)only[vvB,seval,CJ,CG,LQ,f0,d,ex,f,l];exact⟨by simp only[vvB,seval];rw[bad (by unfold Gv;rw[show p! c 126=false by rw[<-L!,A!];omega];simp) rfl],rfl⟩
   ·have l:((c:Int)>126)=False:=eq_false (by omega);have p:Gv c=!decide (Eg c [40,41,123,125,37,42,34,92,93]>=0):=by
     unfold Gv;rw[show p! 33 c=true by rw[A!];omega,show p! c 126=true by rw[A!];omega];rfl
    by_cases i:Eg c [40,41,123,125,37,42,34,92,93]>=0
    ·have o:=eq_true i;simp(disch:=omega)only[vvB,seval,CJ,CG,LQ,f0,d,ex,f,l,Yx a,o];exact⟨by simp only[vvB,seval];rw[bad (by rw[p,decide_eq_true i];rfl) rfl],rfl⟩
    ·have o:=eq_false i;simp(disch:=omega)only[vvB,seval,CJ,CG,f0,d,ex,f,l,Yx a,o];refine⟨qK2 d,qK2 q,(),by simp only[Fa,vvB,seval,f0,and_self],rfl,?_⟩;rw[take_snoc j,List.all_append,b];simp[p,i]
 ·intro _ fr g m b;obtain⟨f0,-⟩:=m;obtain⟨rfl,b⟩:=b;rw[d!]at b;exact⟨f0,rfl,b⟩
 ·rintro fr g ⟨f0,rfl,b⟩;simp(disch:=omega)only[vvB,seval,aic,f0];refine aW.ret (qT0) ⟨?_,rfl⟩;unfold U5;rw[b];by_cases w:s= []<;>simp[w]
 ·rintro fr g ⟨f2,rfl⟩;exact aW.ret (qT1 f2) ⟨rfl,rfl⟩
theorem aB3{s:List Nat}(d:XL s=true):∃h',Rf [H s] h=D (K true) h'/\Nw h h':=by
 unfold XL at d;rw[j!,j!]at d;obtain⟨⟨a,hl⟩,k⟩:=d;have l:s.length<=64:=D! hl;have b:foldM s=s:=of_decide_eq_true k;have e:∀c∈s,c<256:=λc j=>by
  unfold U5 at a;rw[j!]at a;have:=List.all_eq_true.1 a.1 c j;unfold Gv at this;rw[j!,j!]at this;have:=D! this.1.2;omega
 obtain⟨i,e1,f⟩:=aoO (h:=h) (s:=s) (by omega) e;rw[b]at e1;rw[arL];simp(disch:=omega)only[vvB,seval,abu,afQ,afP,aeQ (h:=h) (s:=s) (by omega) e,a,e1];exact⟨i,by simp only[aU,cO,vvB,seval,dn]<;>rfl,f⟩
theorem awQ(x:V)(g:Hp):dI pY (.func (.func ap7) .nil .nil) [x] g=Rh [x] g:=(rfl)
theorem ard{l:List (List Nat)}(r:Rws P (flat fF) 1 h v l)(I:∀k∈l,XL k=true)(t:l.length<=1):
  ∃w h',Ot [v] h=D (.tuple (.cons w (.cons (iV 0) .nil))) h'/\Rws (λj=>h.next.nat<=j.nat) (flat fF) 1 h' w l/\Nw h h':=by
 obtain⟨C,e1,c⟩:=ZF r (aK _) (λ_=>false) (by omega) (f:=.func (.func ap7) .nil .nil) (λa x g E J e=>by
  cases(show [x]= [H a] from e);obtain⟨B,e2,d⟩:=aB3 (h:=g) (I a E);refine⟨B,?_,d⟩;rw[awQ,arM];simp only[vvB,seval,abv,afS,afR,e2];simp only[aU,cO,vvB,seval,dn])
 rw[show(l.any λ_=>false)=false by simp]at e1;obtain⟨w,o,e2,r2,d,i⟩:=ZG (r.nw (aK _) c) (by omega);have G:=c.next;have s:∃u b,mM [w] o=D u b/\Rws (λj=>C.next.nat<=j.nat) (flat fF) 1 b w l/\Nw h b:=by
  rcases i with rfl|i
  ·exact⟨_,o,Yz (r2.len o),r2,c.trans d⟩
  ·obtain⟨b,n,y,m⟩:=arq i (by omega);rw[Gl _ t]at y;exact⟨_,b,n,y.rows (aK _) (λ_ _ q=>q.elim) λ_ q _=>q,(c.trans d).then m λj L e=>by have:=(i.eY e).1;omega⟩
 obtain⟨u,b,n,p,m⟩:=s;have z:=ak9 p t;rw[awg];simp(disch:=omega)only[vvB,seval,agm,ajB,ajA,ajz,ajy,ajx,ajw,ajv,e1,e2,n,z,p.len];exact⟨w,b,by simp only[aU,cO,vvB,seval,dn]<;>rfl,p.mono (aK _) λj _ q=>by omega,m⟩
end
end Go.Proofs.Im
namespace Go.Im
def updB(id:Int)(f:Bx->Bx):List Bx->List Bx
 | []=> []
 |b::l=>if b.id=id then f b::l else b::updB id f l
theorem ajQ{id:Int}{f:Bx->Bx}:∀{l:List Bx} {i:Nat},l.findIdx? (λb=>decide (b.id=id))=some i->∃b,l[i]?=some b/\updB id f l=l.set i (f b)
 | [],i,e=>by simp at e
 |b::l,i,e=>by
  rw[i!]at e;by_cases hb:b.id=id
  ·rw[if_pos (by simpa using hb)]at e;cases e;exact⟨b,rfl,by simp[updB,hb]⟩
  ·rw[if_neg (by simpa using hb)]at e;cases a:l.findIdx? (λb=>decide (b.id=id)) with
   |none=>rw[a]at e;cases e
   |some k=>
    rw[a]at e;cases e;obtain⟨c,d,j⟩:=ajQ (f:=f) a;exact⟨c,d,by simp[updB,hb,j]⟩
theorem asl(id:Int)(f:Bx->Bx)(l:List Bx):(updB id f l).length=l.length:=by
 induction l with
 |nil=>rfl
 |cons b l a=>unfold updB;split<;>simp[a]
theorem ap0{id k:Int}{f:Bx->Bx}(a:∀b,(f b).id=b.id)(l:List Bx):(updB id f l).findIdx? (λb=>decide (b.id=k))=l.findIdx? (λb=>decide (b.id=k)):=by
 induction l with
 |nil=>rfl
 |cons b l c=>
  unfold updB;split
  ·rw[i!,i!,a]
  ·rw[i!,i!,c]
def kF(mod:Int):List Int->List Bx->List Bx
 | [],l=>l
 |id::r,l=>kF mod r (updB id (λb=>{b with mod:=mod}) l)
theorem ald(mod id:Int):∀(r:List Int) (l:List Bx),kF mod (r++ [id]) l=updB id (λb=>{b with mod:=mod}) (kF mod r l)
 | [],_=>rfl
 |_::r,l=>ald mod id r _
theorem ale{k mod:Int}:∀(r:List Int) (l:List Bx),(kF mod r l).findIdx? (λb=>decide (b.id=k))=l.findIdx? (λb=>decide (b.id=k))
 | [],_=>rfl
 |id::r,l=>(ale r _).trans (ap0 (f:=λb=>{b with mod:=mod}) (λ_=>rfl) l)
theorem ap1(mod:Int):∀(r:List Int) (l:List Bx),(kF mod r l).length=l.length
 | [],_=>rfl
 |id::r,l=>(ap1 mod r _).trans (asl _ _ l)
def lJ(mod id:Int):En:={mod:=mod,kind:=1,id:=id,how:=2}
end Go.Im
namespace Go.Proofs.Im
section
variable{h h' g:Hp}{F I P:Pos->Prop}{ps pl ib:Pos}{A:Acc}{cb:Cap}{fb:Bool}{v vm vl:V}
theorem dJ.aHi(a:dJ h F ps A pl ib cb fb vm vl I){B:List Bx}(hl:B.length=A.boxes.length):dJ (h.put ib (some (O (N tBx fb) (B.map gB).flatten))) F ps {A with boxes:=B} pl ib cb fb vm vl I:=by
 have c:Ch (λj=>j=ib) h (h.put ib (some (O (N tBx fb) (B.map gB).flatten))):=Ch.put _ _ rfl;have ne:=a.ne;refine⟨?_,a.lg.ch c λe=>ne.2.2 e,a.bx.put _,by show yN 6 (.slice ib 0 B.length cb);rw[hl];exact a.cap,?_,?_,a.ne,a.nm,a.nl,a.inn,a.foot,a.lt,a.enil⟩
 ·have e:stC {A with boxes:=B} ib cb vm pl=stC A ib cb vm pl:=by unfold stC;simp only[hl]
  rw[e];exact a.st.ch c λe=>ne.2.1 e
 ·obtain⟨b,x,d,r⟩:=a.ml;refine⟨b,x.mono λ_ _ e=>dB e c λj _ q=>⟨q,λe=>(a.inn j q).2.2.2.1 e⟩,d,r.imp id λ⟨i,f,rest,e,k⟩=>⟨i,f,rest,e,k.ch c λl=>?_⟩⟩;exact(a.nm i (by rw[e];rfl)).2.2.1 l
 ·obtain⟨b,x,d,s⟩:=a.en;exact⟨b,x.mono λ_ _ e=>e,d,s.ch c λj m e=>(a.nl j m).2.2 e⟩
theorem lG{sz:Nat}{i:Pos}{n m:Nat}{c:Cap}(a:m<n)(g:Hp):aX sz (.slice i 0 n c) (Y U (m:Int)) g=D (X i (m*sz)) g:=by rw[yw a,B!]
theorem aOV(x:En)(h:Hp):bJ tEn zEn 1 [(0,4,.agg (V.ofList (iR x)))] h=D (.slice h.next 0 1 (.kn 1)) (h.new (O (N tEn true) (iR x))):=(rfl)
theorem aAD(a b c d:Int)(h:Hp):bU zEn [(0,1,Y U a),(1,1,Y U b),(2,1,Y U c),(3,1,Y U d)] h=D (.agg (V.ofList (iR {mod:=a,kind:=b,id:=c,how:=d}))) h:=(rfl)
theorem dJ.aLR(a:dJ h F ps A pl ib cb fb vm vl I){k f:Nat}{b:Bx}(i:A.boxes[k]?=some b)(j:f<6){y:Int}{b':Bx}(hb:(gB b).set f (iV y)=gB b'):
  aQ 1 (X ib (k*6+f)) (iV y) h=D V.undef (h.put ib (some (O (N tBx fb) ((A.boxes.set k b').map gB).flatten))):=by
 have l:=(a!.1 i).1;have e:∀d∈A.boxes.map gB,d.length=6:=λd hd=>by obtain⟨x,_,rfl⟩:=w!.1 hd;rfl
 have c:(A.boxes.map gB).flatten.length=A.boxes.length*6:=by rw[iQ e,e!]
 rw[a.bx.st ⟨rfl,rfl⟩ (by rw[c];omega),akg e (by rw[List.getElem?_map,i];rfl) j,hb,List.map_set]
theorem ahP(a:dJ h F ps A pl ib cb fb vm vl I)(hA:A.Small){p l:List Int}(r:Rws P (flat fH) 1 h v p)(hn:p.length<=12)(mod:Int)(hl:iW ltI p.length p=l)(ai:∀(k:Nat) x y,l[k]?=some x->l[k+1]?=some y->x≠y)
  (hb:∀id∈l,∃i,A.boxes.findIdx? (λb=>decide (b.id=id))=some i):
  ∃w h',Dw [X ps 0,iV mod,v] h=D w h'/\dJ h' F ps {A with boxes:=kF mod l A.boxes} pl ib cb fb vm vl I/\Rws (λj=>h.next.nat<=j.nat) (flat iR) 4 h' w (l.map (lJ mod))/\aho w l.length/\Ch (λj=>j=ib) h h':=by
 obtain⟨w1,h1,e1,r1,c1,o1⟩:=ajN r (by omega);have aq:l.length=p.length:=by rw[<-hl,AX]
 have n1:=c1.next;have ap:=a.bx.2;have am:∃u m,oK [w1] h1=D u m/\Rws (λj=>h.next.nat<=j.nat) (flat fH) 1 m w1 l/\Nw h m:=by
  rcases o1 with rfl|o1
  ·have:l= []:=by rw[<-hl];rfl
   rw[this];exact⟨_,h1,ahR (r1.len h1),r1,c1⟩
  ·obtain⟨m,e2,o2,c2⟩:=amw o1 (by omega);rw[hl]at o2;exact⟨_,m,e2,o2.rows (aK _) (λ_ _ q=>q.elim) λ_ q _=>q,c1.then c2 λj Z e=>by have:=(o1.eY e).1;omega⟩
 obtain⟨u,m,e2,r2,c2⟩:=am;have e3:=arO r2 (by omega) ai;have a2:=a.nw c2;have n2:=c2.next;rw[apK];show aW q! _ (λw h'=>dJ h' F ps {A with boxes:=kF mod l A.boxes} pl ib cb fb vm vl I/\Rws (λj=>h.next.nat<=j.nat) (flat iR) 4 h' w (l.map (lJ mod))/\aho w l.length/\Ch (λj=>j=ib) h h') _;simp(disch:=omega)only[vvB,seval,Xl,acK,acJ,acI,acH,acG,e1,e2,e3,r2.len,adJ];refine Oc.then (dK (σ:=V) (n:=l.length) (pi:=18) (pn:=17) (pc:=19) [0,1,8,16] (λo=> [X ps 0,iV mod,o,w1])
  (λk o g=>dJ g F ps {A with boxes:=kF mod (l.take k) A.boxes} pl ib cb fb vm vl I/\dA m.next.nat (λ_=>False) (flat iR) tEn 4 g o ((l.take k).map (lJ mod))/\Ch (λj=>j=ib) m g)
  (A:=λfr g=>∃o,fr.get (g! 8)=some o/\dJ g F ps {A with boxes:=kF mod l A.boxes} pl ib cb fb vm vl I/\dA m.next.nat (λ_=>False) (flat iR) tEn 4 g o (l.map (lJ mod))/\Ch (λj=>j=ib) m g) (B:=λ_ _=>False) (s:=.aO)
  (λfr h _ k e1 e2=>by simp only[vvB,seval,acF,e1,e2]) (λfr h k _ e1=>by simp(disch:=omega)only[vvB,seval,acB,e1]) (by decide) (by rw[dO];omega) (qK0) (qK0) (by simp only[Fa,vvB,seval,and_self])
  ⟨a2,dA.nil _ _ _ _ _ _,Ch.refl _ _⟩ ?_ ?_) ?_ ?_
 ·intro k o fr g hk aa ae fa hI;obtain⟨f0,f1,f8,Q,-⟩:=fa;obtain⟨C,t,M⟩:=hI;obtain⟨id,z⟩:∃id,l[k]?=some id:=⟨_,b! hk⟩
  obtain⟨i,q,cs,e4,ex,-,-,-,l4,-⟩:=(r2.ch (P':=λ_=>True) (aK _) M λj Z pj=>⟨trivial,λe=>by rw[e]at pj;omega⟩).elt z;obtain rfl:cs=fH id:=ex;have L4:aF (X i q) g=D (iV id) g:=l4 g rfl 0 _ rfl;obtain⟨bi,S⟩:=hb id (c! z);have G:(kF mod (l.take k) A.boxes).findIdx? (λb=>decide (b.id=id))=some bi:=by rw[ale];exact S
  obtain⟨b,ab,af⟩:=ajQ (f:=λb=>{b with mod:=mod}) G;have aj:({A with boxes:=kF mod (l.take k) A.boxes}:Acc).Small:=⟨hA.clock,by show 0<(kF mod (l.take k) A.boxes).length/\_;rw[ap1];exact hA.boxes,hA.mails,hA.ents,hA.each⟩
  obtain⟨g2,e5,c5⟩:=aaF C aj id;simp only[G,gy]at e5;have J:=C.nw c5;have Lb:=J.st.ld (q:=10) (x:=.slice ib 0 (kF mod (l.take k) A.boxes).length cb) rfl;have ac:=C.st.ld (q:=10) (x:=.slice ib 0 (kF mod (l.take k) A.boxes).length cb) rfl;have ah:=(a!.1 ab).1;obtain⟨E,W⟩:∃E,E=g2.put ib (some (O (N tBx fb) (((kF mod (l.take k) A.boxes).set bi {b with mod:=mod}).map gB).flatten)):=⟨_,rfl⟩
  have S3:aQ 1 (X ib (bi*6+5)) (iV mod) g2=D V.undef E:=by rw[W];exact J.aLR ab (by omega) rfl
  have ad:dJ E F ps {A with boxes:=kF mod (l.take (k+1)) A.boxes} pl ib cb fb vm vl I:=by
   rw[take_snoc z,ald,af,W];exact J.aHi (by rw[z!])
  have L:Ch (λj=>j=ib) g2 E:=by rw[W];exact Ch.put _ _ rfl
  have ao:=M.next;have n5:=c5.next;have av:=L.next;have al:dA m.next.nat (λ_=>False) (flat iR) tEn 4 E o ((l.take k).map (lJ mod)):=(t.nw (aK _) c5).ch (aK _) L (λj Z e=>by have:=(t.eY Z).1;rw[e]at this;omega) λ_ _ q=>q.elim;obtain⟨o',g4,e6,o6,c6,n6,ar⟩:=al.ao0 (bt:=32) (x:=lJ mod id) (by omega) rfl (by simp;omega);have e6:bK tEn 4 32 o (.slice E.next 0 1 (.kn 1)) (E.new (O (N tEn true) (iR {mod:=mod,kind:=1,id:=id,how:=2})))=D o' g4:=e6;simp(disch:=omega)only[vvB,seval,acE,acD,acC,f0,f1,f8,Q,aa,e4,L4,e5,Lb,uS rfl ac,lG ah,S3,aAD,aOV,e6];refine⟨qK2 aa,qK2 ae,o',by simp only[Fa,vvB,seval,f0,f1,Q,and_self],ad.ch c6 λj f e=>by have:=a2.lt j f;have:=(t.eY e).1;omega,?_,?_⟩
  ·rw[take_snoc z,r!];exact o6
  ·exact((M.nw c5).trans L λ_ _ q=>q).trans c6 λj Z e=>by have:=(t.eY e).1;omega
 ·intro o fr g fa hI;obtain⟨f0,f1,f8,Q,-⟩:=fa;obtain⟨C,t,M⟩:=hI;rw[d!]at C t;exact⟨o,f8,C,t,M⟩
 ·rintro fr g ⟨o,f8,C,t,M⟩;have ol:=t.len g;rw[e!]at ol;have fin:∃w,eU 4 o none (some (Y U (l.length:Int))) (some (Y U (l.length:Int))) g=D w g/\Rws (λj=>h.next.nat<=j.nat) (flat iR) 4 g w (l.map (lJ mod))/\aho w l.length:=by
   by_cases hz:l= []
   ·obtain⟨an,x,hw,s⟩:=t;rcases s.is with⟨_,rfl⟩|⟨i,rfl,S,hi,f,hg⟩
    ·subst hz;exact⟨.aO,rfl,Rws.aO _ _ _ _,.inl ⟨rfl,rfl⟩⟩
    ·subst hz;refine⟨.slice i 0 0 (.kn 0),by simp only[List.map_nil,List.length_nil];rfl,?_,.inr ⟨i,rfl⟩⟩;cases x;exact⟨[],.nil,λ_ q=>(by cases q),⟨by simp,.inr ⟨i,0,_,N tEn f,_,rfl,hi,by rw[hg];rfl,λk hk=>by simp at hk⟩⟩,λ_ _ _ _ e=>(by cases e;exact y! _),λj Z=>by cases Z;show h.next.nat<=i.nat;omega⟩
   ·have ak:l.map (lJ mod)≠ []:=by simpa using hz
    obtain⟨i,f,rfl,S,kk⟩:=t.open ak;rw[e!] at*;refine⟨.slice i 0 l.length (.kn l.length),?_,?_,.inr ⟨i,rfl⟩⟩
    ·show(match p! l.length l.length,p! l.length l.length,p! 0 l.length with
      |true,true,true=>fA (moved 4 0 0 l.length) λq=>fA (l.length - 0) λn=>R.ok (V.slice i q n (.kn (l.length - 0))) g
      |_,_,_=>.bad)=_
     rw[E! (y! _),E! (H! _)];simp only[dF];have hm:moved 4 0 0 l.length=0:=by unfold moved;split<;>rfl
     rw[hm,Nat.sub_zero]
    ·have au:∀d∈(l.map (lJ mod)).map iR,d.length=4:=λd hd=>by obtain⟨x,_,rfl⟩:=w!.1 hd;rfl
     have:=Kn.rws (c:=iR) (sz:=4) (l:=l.map (lJ mod)) (cp:=.kn l.length) kk (λ_=>rfl) (λ_ _ _ _ e=>by cases e;simp);rw[e!]at this;exact this.mono (aK _) λj _ e=>by rw[e];omega
  obtain⟨w,e7,r7,f7⟩:=fin;simp(disch:=omega)only[vvB,seval,YN,f8,ol,e7];exact aW.ret (r:=w) (qT0) ⟨C,r7,f7,Ch.trans (c2.ch) M λ_ _ q=>q⟩
 ·intro fr g q;exact q.elim
end
end Go.Proofs.Im
namespace Go.Vm
theorem Rws.own{α:Type}{P:Pos->Prop}{c:α->List V}{w:Nat}{h:Hp}{v:V}{l:List α}(r:Rws P (flat c) w h v l):Rws (λj=>bC v=some j) (flat c) w h v l:=by
 obtain⟨b,a,f,s,k,p⟩:=r;exact⟨b,a.mono λ_ _ e=>e,f,s,k,λj d=>d⟩
theorem Rws.eY{α:Type}{P:Pos->Prop}{E:El α}{w:Nat}{h:Hp}{v:V}{l:List α}(r:Rws P E w h v l){j:Pos}(b:bC v=some j):P j/\j.nat<h.next.nat:=by
 obtain⟨c,a,d,s,k,p⟩:=r;exact⟨p j b,s.eY b⟩
end Go.Vm
namespace Go.Im
structure Acc.Logged (A:Acc):Prop where
 mods:∀e∈A.ents,e.mod<=A.clock
structure Ml.In (A:Acc) (m:Ml):Prop where
 sorted:iW ltI (m.mem.map (·.1)).length (m.mem.map (·.1))=m.mem.map (·.1)
 nodup:∀(k:Nat) x y,(m.mem.map (·.1))[k]?=some x->(m.mem.map (·.1))[k+1]?=some y->x≠y
 there:∀id∈m.mem.map (·.1),∃i,A.boxes.findIdx? (λb=>decide (b.id=id))=some i
 few:m.mem.length<=12
end Go.Im
namespace Go.Proofs.Im
section
variable{h h':Hp}{F I P:Pos->Prop}{ps pl ib:Pos}{A:Acc}{cb:Cap}{fb:Bool}{vm vl:V}
theorem dJ.aHe(a:dJ h F ps A pl ib cb fb vm vl I){es:List En}{b:V}(k:Kn h' pl (O (N tLg true) [iV 10000,b,iV A.floor]))(o:dA 0 (λ_=>False) (flat iR) tEn 4 h' b (A.ents++es))
  (c:Ch (λj=>j=pl\/bC vl=some j) h h') (m:∀j,bC b=some j->bC vl=some j\/h.next.nat<=j.nat) (l:es≠ []):dJ h' (λj=>F j\/bC b=some j) ps {A with ents:=A.ents++es} pl ib cb fb vm b I where
 st:=a.st.ch c λe=>e.elim a.ne.1 λe=>(a.nl ps e).1 rfl
 lg:=k
 bx:=a.bx.ch c λe=>e.elim (λe=>a.ne.2.2 e.symm) λe=>(a.nl ib e).2.2 rfl
 cap:=a.cap
 ml:=by
  obtain⟨d,x,n,r⟩:=a.ml;exact⟨d,x.mono λ_ _ e=>dB e c λj _ q=>⟨q,λe=>e.elim (a.inn j q).2.2.1 (a.inn j q).2.2.2.2.2⟩,n,r.imp id λ⟨i,f,rest,e,k⟩=>⟨i,f,rest,e,k.ch c λg=>g.elim (a.nm i (by rw[e];rfl)).2.1 (a.nm i (by rw[e];rfl)).2.2.2⟩⟩
 en:=o
 ne:=a.ne
 nm:=λj e=>⟨(a.nm j e).1,(a.nm j e).2.1,(a.nm j e).2.2.1,λg=>(m j g).elim (a.nm j e).2.2.2 λq=>by have:=a.lt j (a.foot.2.2.2.1 j e);omega⟩
 nl:=λj e=>(m j e).elim (a.nl j) λq=>⟨λe=>by rw[e]at q;have:=a.st.2;omega,λe=>by rw[e]at q;have:=a.lg.2;omega,λe=>by rw[e]at q;have:=a.bx.2;omega⟩
 inn:=λj q=>⟨.inl (a.inn j q).1,(a.inn j q).2.1,(a.inn j q).2.2.1,(a.inn j q).2.2.2.1,(a.inn j q).2.2.2.2.1,λe=>(m j e).elim (a.inn j q).2.2.2.2.2 λp=>by have:=a.lt j (a.inn j q).1;omega⟩
 foot:=⟨.inl a.foot.1,.inl a.foot.2.1,.inl a.foot.2.2.1,λj e=>.inl (a.foot.2.2.2.1 j e),λj e=>.inr e⟩
 lt:=λj q=>q.elim (λq=>Nat.lt_of_lt_of_le (a.lt j q) c.next) λe=>(o.eY e).2
 enil:=λe=>absurd (List.append_eq_nil_iff.1 e).2 l
theorem dJ.add(a:dJ h F ps A pl ib cb fb vm vl I){es:List En}{w:V}(r:Rws P (flat iR) 4 h w es)(g:∀j:Pos,j.nat<h.next.nat->P j->¬F j){c:Int}(n:∀e∈es,e.mod=c)(hl:∀e∈A.ents,e.mod<=c)(p:A.ents.length+es.length<=10000)(d:es≠ []):
  ∃u h' b,Ll [X pl 0,w] h=D u h'/\dJ h' (λj=>F j\/bC b=some j) ps {A with ents:=A.ents++es} pl ib cb fb vm b I/\Ch F h h'/\(∀j,bC b=some j->F j\/h.next.nat<=j.nat):=by
 obtain⟨u,h',b,e,k,o,f,l⟩:=au0 a.lg a.en r (λj e=>(a.nl j e).2.1) (λj i m=>⟨λe=>g j i m (by rw[e];exact a.foot.2.1),λe=>g j i m (a.foot.2.2.2.2 j e)⟩) n hl p;exact⟨u,h',b,e,a.aHe k o f l d,f.mono λj _ q=>q.elim (λe=>by rw[e];exact a.foot.2.1) (a.foot.2.2.2.2 j),λj e=>(l j e).imp (a.foot.2.2.2.2 j) id⟩
theorem dJ.aLD(a:dJ h F ps A pl ib cb fb vm vl I){k:Nat}{m:Ml}(d:A.mails[k]?=some m):∃im f rest b vk vs,vm=.slice im 0 A.mails.length (.un 8)/\Kn h im (O (N tMl f) (b.flatten++rest))/\All2 (kH I h) A.mails b/\(∀c∈b,c.length=8)/\
  b[k]?=some (dM m vk vs)/\Rws I (flat fF) 1 h vk m.keys/\Rws I (flat dY) 2 h vs m.mem:=by
 obtain⟨b,x,i,r⟩:=a.ml;obtain⟨c,g,vk,vs,rfl,j,l⟩:=x.get d;rcases r with⟨h0,_⟩|⟨im,f,rest,e,kk⟩
 ·rw[h0]at d;simp at d
 ·exact⟨im,f,rest,b,vk,vs,e,kk,x,i,g,j,l⟩
theorem aCz{a:List (List V)}{rest c:List V}{k f:Nat}{y:V}(d:∀c∈a,c.length=8)(b:a[k]?=some c)(e:f<8):(a.flatten++rest).set (k*8+f) y=(a.set k (c.set f y)).flatten++rest:=by
 have g:=(a!.1 b).1;have:=iQ d;rw[List.set_append_left _ _ (by omega),akg d b e]
def DL(l:List (List Nat)):Bool:=l.any λa=>decide (([36,115,101,101,110]:List Nat)=a)
def jH(m:Ml)(l:List (List Nat)):List Int:=if DL l=DL m.keys then [] else m.mem.map (·.1)
def UZ(A:Acc)(k:Nat)(m:Ml)(l:List (List Nat)):Acc:=
 {clock:=A.clock+1
  mails:=A.mails.set k {m with keys:=l,mod:=A.clock+1}
  boxes:=kF (A.clock+1) (jH m l) A.boxes
  ents:=A.ents++((jH m l).map (lJ (A.clock+1))++ [(⟨A.clock+1,2,m.id,2⟩:En)])
  floor:=A.floor
  lastBox:=A.lastBox
  lastId:=A.lastId
  octets:=A.octets}
end
section
variable{h h' g:Hp}{F I P:Pos->Prop}{ps pl ib p:Pos}{A:Acc}{cb:Cap}{fb:Bool}{v vm vl:V}
theorem dJ.aNY(a:dJ h F ps A pl ib cb fb vm vl I){k:Nat}{m m':Ml}(B:A.mails[k]?=some m){im:Pos}{f:Bool}{rest:List V}{b:List (List V)}{vk vs w:V}(e:vm=.slice im 0 A.mails.length (.un 8))(x:All2 (kH I h) A.mails b)
  (E:∀c∈b,c.length=8) (S:b[k]?=some (dM m vk vs)) (C:Rws (λj=>bC w=some j) (flat fF) 1 h w m'.keys) (L:Rws I (flat dY) 2 h vs m'.mem) (y:∀j,bC w=some j->¬F j):
  dJ (h.put im (some (O (N tMl f) ((b.set k (dM m' w vs)).flatten++rest)))) (λj=>F j\/bC w=some j) ps {A with mails:=A.mails.set k m'} pl ib cb fb vm vl (λj=>I j\/bC w=some j):=by
 have i:bC vm=some im:=by rw[e];rfl
 have r:=a.foot.2.2.2.1 im i;have c:Ch (λj=>j=im) h (h.put im (some (O (N tMl f) ((b.set k (dM m' w vs)).flatten++rest)))):=Ch.put _ _ rfl;have nm:=a.nm im i;have s:∀j,bC w=some j->j.nat<h.next.nat:=λj q=>(C.eY q).2;refine⟨?_,a.lg.ch c λe=>nm.2.1 e.symm,a.bx.ch c λe=>nm.2.2.1 e.symm,a.cap,?_,?_,a.ne,a.nm,a.nl,?_,?_,?_,a.enil⟩
 ·have e1:stC {A with mails:=A.mails.set k m'} ib cb vm pl=stC A ib cb vm pl:=rfl;rw[e1];exact a.st.ch c λe=>nm.1 e.symm
 ·have Q:All2 (kH (λj=>I j\/bC w=some j) (h.put im (some (O (N tMl f) ((b.set k (dM m' w vs)).flatten++rest))))) A.mails b:=
   x.mono λ_ _ e=>dB e c λj _ q=>⟨.inl q,λe=>(a.inn j q).2.2.2.2.1 (by rw[e];exact i)⟩
  refine⟨b.set k (dM m' w vs),Q.set ⟨w,vs,rfl,?_,?_⟩,?_,.inr ⟨im,f,rest,?_,?_⟩⟩
  ·exact C.ch (aK _) c λj _ q=>⟨.inr q,λe=>y j q (by rw[e];exact r)⟩
  ·exact L.ch (aK _) c λj _ q=>⟨.inl q,λe=>(a.inn j q).2.2.2.2.1 (by rw[e];exact i)⟩
  ·intro d hd;rcases l! hd with q|q
   ·exact E d q
   ·rw[q];rfl
  ·rw[z!];exact e
  ·obtain⟨l,x0,n,J⟩:=a.ml;rcases J with⟨h0,u⟩|⟨W,f0,t,u,G⟩
   ·rw[h0]at B;simp at B
   ·rw[u]at e;injection e with e;subst e;exact G.put _
 ·obtain⟨l,x0,n,M⟩:=a.en;exact⟨l,x0.mono λ_ _ e=>e,n,M.ch c λj z e=>by rw[e]at z;exact nm.2.2.2 z⟩
 ·intro j q;rcases q with q|q
  ·exact⟨.inl (a.inn j q).1,(a.inn j q).2⟩
  ·have o:=y j q;exact⟨.inr q,λe=>o (by rw[e];exact a.foot.1),λe=>o (by rw[e];exact a.foot.2.1),λe=>o (by rw[e];exact a.foot.2.2.1),λe=>o (a.foot.2.2.2.1 j e),λe=>o (a.foot.2.2.2.2 j e)⟩
 ·exact⟨.inl a.foot.1,.inl a.foot.2.1,.inl a.foot.2.2.1,λj e=>.inl (a.foot.2.2.2.1 j e),λj e=>.inl (a.foot.2.2.2.2 j e)⟩
 ·intro j q;exact q.elim (a.lt j) (s j)
theorem aLE{im:Pos}{w:Wr}{a:List (List V)}{rest c:List V}{k:Nat}(m:Kn h im (O w (a.flatten++rest)))(i:∀c∈a,c.length=8)(b:a[k]?=some c):bT 8 (X im (k*8)) h=D (.agg (V.ofList c)) h:=by
 have n:=(a!.1 b).1;have hl:=iQ i;have e:=Kr i b;have d:=i c (c! b);show dQ h im (λ_ cs=>match gQ 8 (eP (k*8) cs) with|some l=>R.ok (V.agg (V.ofList l)) h|none=>.bad)=_;rw[dL (wr:=w) (all:=a.flatten++rest) (by rw[m.1];rfl),qw (cs:=c) (λf j=>?_) d];rw[n! (by omega),<-e,u!,if_pos j,v!]
theorem aHj(a b c d:Int):eu tEn zEn 1 [(0,4,.agg (V.ofList (iR {mod:=a,kind:=b,id:=c,how:=d})))]=some (O (N tEn true) (iR {mod:=a,kind:=b,id:=c,how:=d}),λp=>.slice p 0 1 (.kn 1)):=(rfl)
theorem aDX(a:dJ h F ps A pl ib cb fb vm vl I)(hA:A.Small)(hL:A.Logged){k:Nat}{m:Ml}(hm:A.mails[k]?=some m)(hf:A.mails.findIdx? (λx=>decide (x.id=m.id))=some k)(ac:m.In A){l:List (List Nat)}(r:Rws P (flat fF) 1 h v l)(hr:∀k∈l,XL k=true)(hn:l.length<=1)
  (bi:l≠m.keys) (bg:A.ents.length<=8000) (bA:A.clock<900000):
  ∃h' F' ag I',Oh [X ps 0,iV m.id,v] h=D (iV 0) h'/\dJ h' F' ps (UZ A k m l) pl ib cb fb vm ag I'/\Ch F h h'/\∀j,F' j->F j\/h.next.nat<=j.nat:=by
 have aE:=hA.each m (c! hm);obtain⟨h1,e1,c1⟩:=aDW a hA m.id;rw[hf]at e1;simp only[gy]at e1;obtain⟨w,h2,e2,r2,c2⟩:=ard (r.nw (aK _) c1) hr hn;have a2:=(a.nw c1).nw c2;have bd:=c1.trans c2;obtain⟨im,f,rest,be,vk,vs,ae,km,x,hw,hc,rk,rs⟩:=a2.aLD hm;have L2:=a2.st.ld (q:=11) (x:=vm) rfl;have hk:=(a!.1 hm).1;have bx:=iQ hw;have bB:=(a!.1 hc).1;have Ix:=λg=>lG (sz:=8) (i:=im) (c:=.un 8) hk g;rw[<-ae]at Ix;have cell:∀{q:Nat} {y:V},q<8->(dM m vk vs)[q]?=some y->(be.flatten++rest)[k*8+q]?=some y:=λ{q y} hq hy=>by
  rw[n! (by omega)];have e:=Kr hw hc;rw[<-e,u!,if_pos (by omega),v!]at hy;exact hy
 have au:aF (X im (k*8+4)) h2=D vk h2:=km.ld (cell (by omega) rfl);have e3:=apW r2 rk (by omega);rw[decide_eq_false bi]at e3;have e4:=aqD a2 hA;have e5:=aqC a2 hA;obtain⟨Z,an⟩:∃Z,Z=h2.put ps (some (O (N tSt true) (stC {A with clock:=A.clock+1} ib cb vm pl))):=⟨_,rfl⟩
 rw[<-an]at e5;have a3:dJ Z F ps {A with clock:=A.clock+1} pl ib cb fb vm vl I:=by rw[an];exact a2.arT rfl rfl rfl rfl
 have c3:Ch (λj=>j=ps) h2 Z:=by rw[an];exact Ch.put _ _ rfl
 have bw:=a.foot.1;have n1:=c1.next;have n2:=c2.next;have n3:=c3.next;have r3:Rws (λj=>bC w=some j) (flat fF) 1 Z w l:=r2.own.ch (aK _) c3 λj _ q=>⟨q,λe=>by have:=(r2.eY q).1;rw[e]at this;have:=a.st.2;omega⟩
 obtain⟨bk,f3,t,n,u,z,ai,aR,x3,M,L,af,ba⟩:=a3.aLD (m:=m) hm;obtain rfl:im=bk:=by rw[ae]at ai;injection ai
 have L3:=a3.st.ld (q:=11) (x:=vm) rfl;have S:∀{q:Nat} {y:V},q<8->(dM m u z)[q]?=some y->(n.flatten++t)[k*8+q]?=some y:=λ{q y} hq hy=>by
  have:=iQ M;have:=(a!.1 L).1;rw[n! (by omega)];have e:=Kr M L;rw[<-e,u!,if_pos (by omega),v!]at hy;exact hy
 obtain⟨h4,e6,c4⟩:=P6 r3 [36,115,101,101,110] (by omega);have a0:=aR.nw c4;have av:aF (X im (k*8+4)) Z=D u Z:=aR.ld (S (by omega) rfl);have aw:aF (X im (k*8+4)) h4=D u h4:=a0.ld (S (by omega) rfl);obtain⟨h5,e7,c5⟩:=P6 (af.nw (aK _) c4) [36,115,101,101,110] (by omega);have a5:=(a3.nw c4).nw c5;have aq:=a0.nw c5;have J:=c4.trans c5;have bL:=J.next;obtain⟨wi,Q,e8,r8,c6⟩:∃wi Q,(if DL l=DL m.keys then wi=.aO/\Q=h5 else Dv [.agg (V.ofList (dM m u z))] h5=D wi Q)/\Rws (λj=>h5.next.nat<=j.nat) (flat fH) 1 Q wi (jH m l)/\Nw h5 Q:=by
  unfold jH;split
  ·exact⟨.aO,h5,⟨rfl,rfl⟩,Rws.aO _ _ _ _,Nw.refl _⟩
  ·obtain⟨wi,Q,e,o,c⟩:=awY (h:=h5) (show kH I h5 m (dM m u z) from⟨u,z,rfl,af.nw (aK _) J,ba.nw (aK _) J⟩) aE.2;exact⟨wi,Q,e,o.rws (aK _),c⟩
 have a6:=a5.nw c6;have a1:=aq.nw c6;have n6:=c6.next;have x6:All2 (kH I Q) A.mails n:=x3.mono λ_ _ e=>dB e (J.trans c6) λj _ q=>⟨q,λq=>q⟩
 obtain⟨h7,aa⟩:∃h7,h7=Q.put im (some (O (N tMl f3) ((n.set k ((dM m u z).set 4 w)).flatten++t))):=⟨_,rfl⟩
 have S7:aQ 1 (X im (k*8+4)) w Q=D V.undef h7:=by
  rw[aa,<-aCz M L (by omega)];exact a1.st r3.cell (by rw[h!,iQ M];have:=(a!.1 L).1;omega)
 have bm:Kn h7 im (O (N tMl f3) ((n.set k ((dM m u z).set 4 w)).flatten++t)):=by rw[aa];exact a1.put _
 have aM:∀c∈n.set k ((dM m u z).set 4 w),c.length=8:=λd hd=>by
  rcases l! hd with q|q
  ·exact M d q
  ·rw[q];rfl
 have aD:(n.set k ((dM m u z).set 4 w))[k]?=some ((dM m u z).set 4 w):=by rw[List.getElem?_set_self (a!.1 L).1]
 obtain⟨m',W⟩:∃m':Ml,m'={m with keys:=l,mod:=A.clock+1}:=⟨_,rfl⟩
 obtain⟨E,ao⟩:∃E,E=Q.put im (some (O (N tMl f3) ((n.set k (dM m' w z)).flatten++t))):=⟨_,rfl⟩
 have S8:aQ 1 (X im (k*8+6)) (iV (A.clock+1)) h7=D V.undef E:=by
  have e:=bm.st (q:=k*8+6) (y:=iV (A.clock+1)) ⟨rfl,rfl⟩ (by rw[h!,iQ aM];have:=(a!.1 aD).1;omega);rw[aCz aM aD (by omega),List.set_set,aa,aol]at e;rw[ao,W,aa];exact e
 have bj:∀j,bC w=some j->¬F j:=λj q fj=>by have:=(r2.eY q).1;have:=a.lt j fj;omega
 have a8:=a6.aNY (m:=m) (m':=m') hm ae x6 M L (by rw[W];exact r3.nw (aK _) (J.trans c6)) (by rw[W];exact ba.nw (aK _) (J.trans c6)) bj (rest:=t) (f:=f3);rw[<-ao]at a8;have c8:Ch (λj=>j=im) Q E:=by rw[ao];exact Ch.put _ _ rfl
 have n8:=c8.next;have bu:=r8.ch (P':=λj=>h5.next.nat<=j.nat) (aK _) c8 λj _ q=>⟨q,λe=>by have:=aq.2;rw[<-e]at this;omega⟩
 have ab:=a8.nw (Nw.bump 1 E);have bf:({A with clock:=A.clock+1,mails:=A.mails.set k m'}:Acc).Small:=⟨by have:=hA.clock;exact⟨by show 0<=A.clock+1;omega,by show A.clock+1<1000000;omega⟩,hA.boxes,by show(A.mails.set k m').length<=1000;rw[z!];exact hA.mails,hA.ents,λy hy=>by
  rcases l! hy with q|q
  ·exact hA.each y q
  ·rw[q,W];exact⟨by show l.length<=1000;omega,aE.2⟩⟩
 have C:iW ltI (jH m l).length (jH m l)=jH m l/\(∀(k:Nat) x y,(jH m l)[k]?=some x->(jH m l)[k+1]?=some y->x≠y)/\(∀id∈jH m l,∃i,A.boxes.findIdx? (λb=>decide (b.id=id))=some i)/\(jH m l).length<=12:=by
  unfold jH;split
  ·exact⟨rfl,λk x y e=>by simp at e,λid e=>by simp at e,by simp⟩
  ·exact⟨ac.sorted,ac.nodup,ac.there,by rw[e!];exact ac.few⟩
 obtain⟨w9,h9,e9,a9,r9,f9,c9⟩:=ahP ab bf (bu.nw (aK _) (Nw.bump 1 E)) C.2.2.2 (A.clock+1) C.1 C.2.1 C.2.2.1;have nb:(aH 1 E).next.nat=E.next.nat+1:=xg _ _;have n9:=c9.next;obtain⟨s,G⟩:∃s,s=h9.put E.next (some (O (N tEn true) (iR {mod:=A.clock+1,kind:=2,id:=m.id,how:=2}))):=⟨_,rfl⟩
 have ak:Ch (λj=>j=E.next) h9 s:=by rw[G];exact Ch.put _ _ rfl
 have ar:s.next=h9.next:=by rw[G];rfl
 have bl:Kn s E.next (O (N tEn true) (iR {mod:=A.clock+1,kind:=2,id:=m.id,how:=2})):=by rw[G];exact⟨kL _ _ _,by rw[jI];omega⟩
 have bb:=a9.ch ak λj f e=>by have:=a8.lt j f;rw[e]at this;omega
 have br:=r9.ch (P':=λj=>(aH 1 E).next.nat<=j.nat) (aK _) ak λj _ q=>⟨q,λe=>by rw[e]at q;omega⟩
 have bv:Rws (λj=>j=E.next) (flat iR) 4 s (.slice E.next 0 1 (.kn 1)) [({mod:=A.clock+1,kind:=2,id:=m.id,how:=2}:En)]:=Kn.rws (l:= [({mod:=A.clock+1,kind:=2,id:=m.id,how:=2}:En)]) (by simpa using bl) (λ_=>rfl) (λ_ _ _ _ e=>by cases e;exact y! _);have bh:aho w9 ((jH m l).map (lJ (A.clock+1))).length:=by rw[e!];exact f9
 obtain⟨bN,az,ax,bn,al⟩:=aoZ (el:=tEn) (bt:=32) br bh bv (by simp) (by simp;have:=C.2.2.2;omega);have aj:=bb.nw al;have bE:=al.next;have Lp:∀{g:Hp} {F:Pos->Prop} {B:Acc} {vl:V} {I:Pos->Prop},dJ g F ps B pl ib cb fb vm vl I->aF (X ps 12) g=D (X pl 0) g:=λa=>a.st.ld (q:=12) rfl;have a4:s.next.nat=h9.next.nat:=by rw[ar]
 have bs:=bn.rows (P':=λj=>s.next.nat<=j.nat) (aK _) (λ_ _ q=>q.elim) λ_ q _=>q;obtain⟨bM,am,ag,ay,bc,ah,aL⟩:=aj.add bs (λj _ pj fj=>by have:=a8.lt j fj;rw[ar]at pj;omega) (c:=A.clock+1) (λe he=>by
  rcases k!.1 he with q|q
  ·obtain⟨id,_,rfl⟩:=w!.1 q;rfl
  ·simp at q;rw[q]) (λe he=>by have:=hL.mods e he;omega) (by rw[h!,e!];have:=C.2.2.2;show A.ents.length+_<=10000;simp;omega) (by simp)
 have ap:(N! l λa=>decide (([36,115,101,101,110]:List Nat)=a))=DL l:=rfl;have ad:(N! m.keys λa=>decide (([36,115,101,101,110]:List Nat)=a))=DL m.keys:=rfl;rw[ap]at e6;rw[ad]at e7;have N5:=aLE aq M L;have fin:Oh [X ps 0,iV m.id,v] h=D (iV 0) am:=by
  rw[avY];by_cases hs:DL l=DL m.keys
  ·rw[if_pos hs]at e8;obtain⟨rfl,rfl⟩:=e8;simp(disch:=omega)only[vvB,seval,VL,WT,WR,WQ,WO,WN,WM,WL,TI,TG,TF,TD,TB,TA,Tz,Tv,fD,e1,e2,L2,Ix,au,e3,e4,e5,L3,e6,aw,uS af.noF av,e7,ab4,hs,S7,S8,e9,aAD,aHj,<-G,ax,Lp aj,auo (v:=X pl 0) rfl (Lp a9) (Lp ab),ay];simp only[aU,cO,vvB,seval,dn]<;>rfl
  ·rw[if_neg hs]at e8;simp(disch:=omega)only[vvB,seval,VL,WT,WR,WQ,WO,WN,WM,WL,TI,TG,TF,TD,TB,ae5,TA,Tz,Tv,fD,e1,e2,L2,Ix,au,e3,e4,e5,L3,e6,aw,uS af.noF av,e7,ab4,hs,N5,e8,S7,S8,e9,aAD,aHj,<-G,ax,Lp aj,auo (v:=X pl 0) rfl (Lp a9) (Lp ab),ay];simp only[aU,cO,vvB,seval,dn]<;>rfl
 refine⟨am,λj=>(F j\/bC w=some j)\/bC ag=some j,ag,λj=>I j\/bC w=some j,fin,?_,?_,?_⟩
 ·have:UZ A k m l={({A with clock:=A.clock+1,mails:=A.mails.set k m',boxes:=kF (A.clock+1) (jH m l) A.boxes}:Acc) with ents:=A.ents++((jH m l).map (lJ (A.clock+1))++ [({mod:=A.clock+1,kind:=2,id:=m.id,how:=2}:En)])}:=by rw[W];rfl
  rw[this];exact bc
 ·have bz:=ah.next;have a4:s.next.nat=h9.next.nat:=by rw[ar]
  have hF:∀j:Pos,j.nat<h.next.nat->(F j\/bC w=some j)->F j:=λj hj q=>q.elim id λe=>by have:=(r2.eY e).1;omega
  refine⟨by omega,λj hj hn=>?_⟩;have bq:h2.get j=h.get j:=bd.get j hj (λq=>q)
  have q3:Z.get j=h2.get j:=c3.get j (by omega) λe=>hn (by rw[e];exact a.foot.1);have q6:Q.get j=Z.get j:=(J.trans c6).get j (by omega) λq=>q;have q8:E.get j=Q.get j:=c8.get j (by omega) λe=>hn (by rw[e];exact a.foot.2.2.2.1 im (by rw[ae];rfl));have qb:(aH 1 E).get j=E.get j:=rfl;have q9:h9.get j=(aH 1 E).get j:=c9.get j (by omega) λe=>hn (by rw[e];exact a.foot.2.2.1);have bo:s.get j=h9.get j:=ak.get j (by omega) λe=>by rw[e]at hj;omega
  have bp:az.get j=s.get j:=al.get j (by omega) λq=>q;have a7:am.get j=az.get j:=ah.get j (by omega) λq=>hn (hF j hj q);rw[a7,bp,bo,q9,qb,q8,q6,q3,bq]
 ·intro j q;rcases q with(q|q)|q
  ·exact .inl q
  ·exact .inr (by have:=(r2.eY q).1;omega)
  ·rcases aL j q with(q|q)|q
   ·exact .inl q
   ·exact .inr (by have:=(r2.eY q).1;omega)
   ·exact .inr (by omega)
end
section
variable{h h' g:Hp}{F I:Pos->Prop}{ps pl ib p:Pos}{A:Acc}{cb:Cap}{fb:Bool}{v vm vl:V}
theorem aD3{ents:List En}{k:Int}(lg:Kn h pl (O (N tLg true) [iV 10000,vl,iV k]))(o:dA 0 (λ_=>False) (flat iR) tEn 4 h vl ents)(m:ents= []->vl=.aO)(Q:ents.length<=10000):
  ∃h' a,VZ [X pl 0] h=D (X h.next 0) h'/\Kn h' h.next (O (N tLg true) [iV 10000,a,iV k])/\dA (h.next.nat+1) (λ_=>False) (flat iR) tEn 4 h' a ents/\(ents= []->a=.aO)/\Nw h h':=by
 have E:=lg.ldN (n:=3) rfl;obtain⟨b,d⟩:∃b,b=h.new (O (N tLg true) [iV 10000,vl,iV k]):=⟨_,rfl⟩
 have B:aQ 3 (X h.next 0) (.agg (V.ofList [iV 10000,vl,iV k])) (h.new (O (N tLg true) [(Y U 0),.aO,(Y U 0)]))=D V.undef b:=by rw[d];exact ig (V.dG _) rfl rfl
 have t:Nw h b:=by rw[d];exact Nw.new _ _
 have L:Kn b h.next (O (N tLg true) [iV 10000,vl,iV k]):=by rw[d];exact Kn.new _ _
 have M:b.next.nat=h.next.nat+1:=by rw[d,bI]
 have z:=(lg.nw t).ld (q:=1) (x:=vl) rfl;obtain⟨a,c,e2,f,r,P⟩:∃a c,oQ [vl] b=D a c/\dA (h.next.nat+1) (λ_=>False) (flat iR) tEn 4 c a ents/\Nw b c/\(ents= []->a=.aO):=by
  by_cases s:ents= []
  ·rw[m s,s];exact⟨.aO,b,apY b,dA.nil _ _ _ _ _ _,Nw.refl _,λ_=>rfl⟩
  ·obtain⟨w,c,e2,r2,r,f⟩:=arQ (o.nw (aK _) t).aLp (by omega);rcases f with f|f
   ·exact absurd f s
   ·exact⟨w,c,e2,by rw[<-M];exact f,r,λe=>absurd e s⟩
 have y:=L.nw r;obtain⟨l,i⟩:∃l,l=c.put h.next (some (O (N tLg true) [iV 10000,a,iV k])):=⟨_,rfl⟩
 have C:aQ 1 (X h.next 1) a c=D V.undef l:=by rw[i];exact y.st (q:=1) f.cell (show 1<3 by omega)
 have u:Ch (λj=>j=h.next) c l:=by rw[i];exact Ch.put _ _ rfl
 rw[av5];simp(disch:=omega)only[vvB,seval,agd,ai2,ai1,ai0,aiZ,aiY,fD,E,B,z,e2,C];refine⟨l,a,by simp only[aU,cO,vvB,seval,dn]<;>rfl,by rw[i];exact y.put _,f.ch (aK _) u (λj e G=>by have:=(f.eY e).1;rw[G]at this;omega) λ_ _ q=>q.elim,P,(t.trans r).then u λj J e=>by rw[e]at J;omega⟩
abbrev zSt:List V:= [(H []),(H []),(Y U 0),(Y U 0),(Y U 0),(Y U 0),(Y U 0),(Y U 0),(Y U 0),(Y U 0),.aO,.aO,.bY,(Y U 0),(Y U 0),(Y U 0)]
theorem aqE(a:dJ h F ps A pl ib cb fb vm vl I)(hA:A.Small):
  ∃h' qs F' aR w au ac a0 S I',FY [X ps 0] h=D (X qs 0) h'/\dJ h' F' qs A aR w au ac a0 S I'/\Nw h h'/\∀j,F' j->h.next.nat<=j.nat:=by
 have ab:=a.nw (Nw.bump 1 h);have nb:(aH 1 h).next.nat=h.next.nat+1:=xg _ _;obtain⟨vb,h5,e5,r5,c5,o5⟩:=QJ ab hA;have Z:=ab.nw c5;obtain⟨x,M,e7,o7,c7⟩:=QI Z hA;have J:=Z.nw c7;have he:=hA.ents;obtain⟨k,S,aw,al,ao,a2,t⟩:=aD3 J.lg J.en J.enil (by omega);have y:=J.nw t;have n5:=c5.next;have n7:=c7.next;have bb:=t.next;have az:A.boxes≠ []:=λe=>by have:=hA.boxes;rw[e]at this;simp at this
 obtain⟨w,ac,rfl,ah,ad⟩:=o5.open az;have a4:=(ad.nw c7).nw t;have ap:=o7.nw dB t;have Lp:∀{g:Hp} {F:Pos->Prop},dJ g F ps A pl ib cb fb vm vl I->aF (X ps 12) g=D (X pl 0) g:=λa=>a.st.ld (q:=12) rfl;have C:∀{g:Hp} {F:Pos->Prop},dJ g F ps A pl ib cb fb vm vl I->aF (X ps 13) g=D (iV A.lastBox) g:=λa=>a.st.ld (q:=13) rfl;have E:∀{g:Hp} {F:Pos->Prop},dJ g F ps A pl ib cb fb vm vl I->aF (X ps 14) g=D (iV A.lastId) g:=λa=>a.st.ld (q:=14) rfl;have G:∀{g:Hp} {F:Pos->Prop},dJ g F ps A pl ib cb fb vm vl I->aF (X ps 15) g=D (iV A.octets) g:=λa=>a.st.ld (q:=15) rfl;have N9:∀{g:Hp} {F:Pos->Prop},dJ g F ps A pl ib cb fb vm vl I->bT 9 (X ps 0) g=D (.agg (V.ofList [H [117],H [112],iV 1000,iV 100,iV 1048576,iV 1073741824,iV 1073741824,iV 10000,iV 200])) g:=λ{g F} a=>by
  show dQ g ps (λ_ cs=>match gQ 9 (eP 0 cs) with|some l=>R.ok (V.agg (V.ofList l)) g|none=>.bad)=_;rw[dL (wr:=N tSt true) (all:=stC A ib cb vm pl) (by rw[a.st.1];rfl)];rfl
 obtain⟨W,P⟩:∃W:List V,W= [H [117],H [112],iV 1000,iV 100,iV 1048576,iV 1073741824,iV 1073741824,iV 10000,iV 200,iV 0,.slice w 0 A.boxes.length (.un 6),x,X M.next 0,iV A.lastBox,iV A.lastId,iV A.octets]:=⟨_,rfl⟩
 obtain⟨m,r⟩:∃m,m=k.put h.next (some (O (N tSt true) W)):=⟨_,rfl⟩
 have L:Ch (λj=>j=h.next) k m:=by rw[r];exact Ch.put _ _ rfl
 have an:m.next=k.next:=by rw[r];rfl
 have am:Kn m h.next (O (N tSt true) W):=by rw[r];exact⟨kL _ _ _,by rw[jI];omega⟩
 have ar:=y.ch L λj f e=>by have:=a.lt j f;rw[e]at this;omega
 have ax:=Wl ar.st (q:=9) (n:=A.clock) rfl;obtain⟨u,ag⟩:=Jo (n:=A.clock) am (q:=9) (by rw[P];show 9<16;omega);obtain⟨d,s⟩:∃d,d=m.put h.next (some (O (N tSt true) (stC A w (.un 6) x M.next))):=⟨_,rfl⟩
 have ay:m.put h.next (some (O (N tSt true) (W.set 9 (iV A.clock))))=d:=by rw[s,P];rfl
 rw[ay]at ag;have aa:Ch (λj=>j=h.next) m d:=by rw[s];exact Ch.put _ _ rfl
 obtain⟨a9,xm,ba,sm⟩:=ap;have hB:bU zSt [(0,9,.agg (V.ofList [H [117],H [112],iV 1000,iV 100,iV 1048576,iV 1073741824,iV 1073741824,iV 10000,iV 200])),(10,1,.slice w 0 A.boxes.length (.un 6)),(11,1,x),(12,1,X M.next 0),(13,1,iV A.lastBox),(14,1,iV A.lastId),(15,1,iV A.octets)] k=D (.agg (V.ofList W)) k:=by
  rw[P];rcases sm.is with⟨_,e⟩|⟨im,e,_⟩<;>rw[e]<;>rfl
 have hX:ako tSt (.agg (V.ofList W))=some (O (N tSt true) W,λp=>X p 0):=by rw[P];rfl
 refine⟨d,h.next,λj=>h.next.nat<=j.nat/\j.nat<d.next.nat,M.next,w,.un 6,ac,x,S,λj=>h5.next.nat<=j.nat/\j.nat<M.next.nat/\bC x≠some j,?_,?_,?_,λj q=>q.1⟩
 ·rw[av1];simp(disch:=omega)only[vvB,seval,agb,aiJ,aiI,aiH,aiG,aiF,fD,e5,e7,Lp J,auo (v:=X pl 0) rfl (Lp Z) (Lp ab),aw,N9 y,aBj (v:=.agg (V.ofList [H [117],H [112],iV 1000,iV 100,iV 1048576,iV 1073741824,iV 1073741824,iV 10000,iV 200])) rfl (N9 J) (N9 Z) (N9 ab),C y,aBj (v:=iV A.lastBox) rfl (C J) (C Z) (C ab),E y,aBj (v:=iV A.lastId) rfl (E J) (E Z) (E ab),G y,aBj (v:=iV A.octets) rfl (G J) (G Z) (G ab),hB,hX,<-r,ax,ag];simp only[aU,cO,vvB,seval,dn]<;>rfl
 ·have aM:d.next=k.next:=by rw[s,jI,an]
  have a8:d.next.nat=k.next.nat:=by rw[aM]
  have a6:m.next.nat=k.next.nat:=by rw[an]
  have B:Ch (λj=>j=h.next) M d:=(t.ch.trans L λ_ _ q=>q).trans aa λ_ _ q=>q;have z:Ch (λj=>j=h.next) k d:=L.trans aa λ_ _ q=>q;have ae:Ch (λj=>j=h.next) h5 d:=(Nw.ch c7).trans B λ_ _ q=>q;obtain⟨af,a1,ak,aq⟩:=o7;have Q:∀j,bC S=some j->M.next.nat+1<=j.nat/\j.nat<k.next.nat:=λj e=>ao.eY e;have aj:∀j,bC x=some j->h5.next.nat<=j.nat/\j.nat<M.next.nat:=λj e=>aq.eY e;have ai:=ad.2;have a3:=al.2;refine⟨?_,?_,?_,?_,?_,?_,?_,?_,?_,?_,?_,?_,?_⟩
  ·rw[s];exact am.put _
  ·exact al.ch z λe=>by have:=congrArg Pos.nat e;omega
  ·exact ad.ch ae λe=>by rw[e]at ah;omega
  ·intro i o n c e;cases e;rfl
  ·refine⟨af,a1.mono λ_ _ e=>dB e B λj hj q=>⟨⟨q.1,hj,q.2⟩,λe=>by rw[e]at q;omega⟩,ak,?_⟩;rcases aq.is with⟨h0,e⟩|⟨i,e,aD,aE,f,hg⟩
   ·exact .inl ⟨List.length_eq_zero_iff.1 h0,e⟩
   ·refine .inr ⟨i,f,[],e,?_⟩;rw[List.append_nil];exact(show Kn M i _ from⟨hg,aE⟩).ch B λe=>by rw[e]at aD;omega
  ·obtain⟨av,xl,aL,sl⟩:=ao;exact⟨av,xl.mono λ_ _ e=>e,aL,(sl.ch z λj e b=>by have:=(sl.eY e).1;rw[b]at this;omega).base λ_ _=>H! _⟩
  ·exact⟨λe=>by have:=congrArg Pos.nat e;omega,λe=>by rw[<-e]at ah;omega,λe=>by rw[<-e]at ai;omega⟩
  ·intro j e;have:=aj j e;exact⟨λb=>by rw[b]at this;omega,λb=>by rw[b]at this;omega,λb=>by rw[b]at this;omega,λb=>by have:=Q j b;omega⟩
  ·intro j e;have:=Q j e;exact⟨λb=>by rw[b]at this;omega,λb=>by rw[b]at this;omega,λb=>by rw[b]at this;omega⟩
  ·rintro j ⟨q1,q2,q3⟩;exact⟨⟨by omega,by omega⟩,λb=>by rw[b]at q1;omega,λb=>by rw[b]at q2;omega,λb=>by rw[b]at q1;omega,q3,λb=>by have:=Q j b;omega⟩
  ·exact⟨⟨y! _,by omega⟩,⟨by omega,by omega⟩,⟨by omega,by omega⟩,λj e=>by have:=aj j e;exact⟨by omega,by omega⟩,λj e=>by have:=Q j e;exact⟨by omega,by omega⟩⟩
  ·exact λj q=>q.2
  ·exact a2
 ·exact((((Nw.bump 1 h).trans c5).trans c7).trans t).then (L.trans aa λ_ _ q=>q) λj hj e=>by rw[e]at hj;omega
end
section
variable{h h' g:Hp}{F o I p:Pos->Prop}{ps qs pl ib pl2 f:Pos}{A B:Acc}{cb l:Cap}{fb i:Bool}{vm vl d m:V}
theorem aGx(a:dJ h F ps A pl ib cb fb vm vl I)(b:dJ h o qs B pl2 f l i d m p)(hB:B.Small):
  ∃u h' F' ag af ac ad aj ah I',UC [X ps 0,X qs 0] h=D u h'/\dJ h' F' ps B ag af ac ad aj ah I'/\Ch (λj=>j=ps) h h'/\∀j,F' j->j=ps\/h.next.nat<=j.nat:=by
 obtain⟨M,rs,F3,t,s,z,ae,v,ai,I3,e1,c,n1,G⟩:=aqE b hB;have a1:=a.nw n1;have ak:=a.st.2;have r:∀j,F3 j->j≠ps:=λj q e=>by have:=G j q;rw[e]at this;omega
 have vc:=c.ml.rws.cell;have L:∀{g:Hp} (J:Ch (λj=>j=ps) M g),Kn g rs (O (N tSt true) (stC B s z v t)):=λJ=>c.st.ch J (r _ c.foot.1);have step:∀{g:Hp} {cs:List V} {q:Nat} {y:V},Kn g ps (O (N tSt true) cs)->y.cells= [y]/\gW y=true->q<cs.length->Ch (λj=>j=ps) M g->
   ∃g',aQ 1 (X ps q) y g=D V.undef g'/\Kn g' ps (O (N tSt true) (cs.set q y))/\Ch (λj=>j=ps) M g':=λk hy hq J=>⟨_,k.st hy hq,k.put _,J.trans (Ch.put (S:=λj=>j=ps) _ _ rfl) λ_ _ q=>q⟩
 obtain⟨g1,S1,k1,d1⟩:=step (q:=10) (y:=.slice s 0 B.boxes.length z) a1.st ⟨rfl,rfl⟩ (show 10<16 by omega) (Ch.refl _ _);obtain⟨g2,S2,k2,d2⟩:=step (q:=11) (y:=v) k1 vc (show 11<16 by omega) d1;obtain⟨g3,S3,k3,d3⟩:=step (q:=12) (y:=X t 0) k2 ⟨rfl,rfl⟩ (show 12<16 by omega) d2;obtain⟨g4,S4,k4,d4⟩:=step (q:=13) (y:=iV B.lastBox) k3 ⟨rfl,rfl⟩ (show 13<16 by omega) d3;obtain⟨g5,S5,k5,d5⟩:=step (q:=14) (y:=iV B.lastId) k4 ⟨rfl,rfl⟩ (show 14<16 by omega) d4;obtain⟨g6,S6,k6,d6⟩:=step (q:=15) (y:=iV B.octets) k5 ⟨rfl,rfl⟩ (show 15<16 by omega) d5;have P:=(L (Ch.refl _ _)).ld (q:=10) rfl;have Q:=(L (Ch.refl _ _)).ld (q:=11) (x:=v) rfl;have W:=(L (Ch.refl _ _)).ld (q:=12) rfl;have Z:=(L (Ch.refl _ _)).ld (q:=13) (x:=iV B.lastBox) rfl;have aa:=(L (Ch.refl _ _)).ld (q:=14) (x:=iV B.lastId) rfl;have ab:=(L (Ch.refl _ _)).ld (q:=15) (x:=iV B.octets) rfl;have L9:=Wl (L d6) (q:=9) (n:=B.clock) rfl;obtain⟨u,S7⟩:=Jo (n:=B.clock) k6 (q:=9) (show 9<16 by omega);obtain⟨E,C⟩:∃E,E=g6.put ps (some (O (N tSt true) (stC B s z v t))):=⟨_,rfl⟩
 have e7:g6.put ps (some (O (N tSt true) ((((((((stC A ib cb vm pl).set 10 (.slice s 0 B.boxes.length z)).set 11 v).set 12 (X t 0)).set 13 (iV B.lastBox)).set 14 (iV B.lastId)).set 15 (iV B.octets)).set 9 (iV B.clock))))=E:=by rw[C];rfl
 rw[e7]at S7;have d7:Ch (λj=>j=ps) M E:=by rw[C];exact d6.trans (Ch.put (S:=λj=>j=ps) _ _ rfl) λ_ _ q=>q
 have k7:Kn E ps (O (N tSt true) (stC B s z v t)):=by rw[C];exact k6.put _
 have w:=c.ch d7 r;refine⟨V.undef,E,λj=>j=ps\/F3 j,t,s,z,ae,v,ai,I3,?_,?_,?_,λj q=>q.imp id (G j)⟩
 ·rw[axw];simp(disch:=omega)only[vvB,seval,akQ,am2,am1,am0,e1,P,Q,W,Z,aa,ab,S1,S2,S3,S4,S5,S6,L9,S7];rfl
 ·refine⟨k7,w.lg,w.bx,w.cap,w.ml,w.en,⟨λe=>r t c.foot.2.1 e.symm,λe=>r s c.foot.2.2.1 e.symm,w.ne.2.2⟩,λj e=>⟨r j (c.foot.2.2.2.1 j e),(w.nm j e).2⟩,λj e=>⟨r j (c.foot.2.2.2.2 j e),(w.nl j e).2⟩,λj q=>⟨.inr (w.inn j q).1,r j (w.inn j q).1,(w.inn j q).2.2⟩,⟨.inl rfl,.inr c.foot.2.1,.inr c.foot.2.2.1,λj e=>.inr (c.foot.2.2.2.1 j e),λj e=>.inr (c.foot.2.2.2.2 j e)⟩,λj q=>q.elim (λe=>by rw[e];exact k7.2) (w.lt j),w.enil⟩
 ·exact(n1.ch).trans d7 λ_ _ q=>q
end
end Go.Proofs.Im
namespace Go.Im
theorem _root_.Go.Vm.All2.eraseIdx{α:Type}{R:α->List V->Prop}{l:List α}{cs:List (List V)}(a:All2 R l cs)(n:Nat):All2 R (l.eraseIdx n) (cs.eraseIdx n):=by
 rw[x!,x!];exact(a.take n).append (a.drop (n+1))
def al5(A:Acc)(k:Nat)(m:Ml):Int:=if(A.mails.eraseIdx k).any (λx=>decide (x.thread=m.thread)) then 2 else 3
def akj(A:Acc)(k:Nat)(m:Ml):Acc:=
 {clock:=A.clock+1
  mails:=A.mails.eraseIdx k
  boxes:=kF (A.clock+1) (m.mem.map (·.1)) A.boxes
  ents:=A.ents++((m.mem.map (·.1)).map (lJ (A.clock+1))++ [(⟨A.clock+1,2,m.id,3⟩:En),⟨A.clock+1,3,m.thread,al5 A k m⟩])
  floor:=A.floor
  lastBox:=A.lastBox
  lastId:=A.lastId
  octets:=A.octets - (m.text.length:Int)}
end Go.Im
namespace Go.Proofs.Im
section
variable{p:Pos}
abbrev aOs:List V:= [(Y U 0),(Y U 0),(Y U 0),(Y U 0),(Y U 0),(Y U 0),(Y U 0),(Y U 0)]
theorem aOa(a b c d a' b' e f:Int):eu tEn aOs 2 [(0,4,.agg (V.ofList (iR {mod:=a,kind:=b,id:=c,how:=d}))),(4,4,.agg (V.ofList (iR {mod:=a',kind:=b',id:=e,how:=f})))]=
  some (O (N tEn true) (([({mod:=a,kind:=b,id:=c,how:=d}:En),{mod:=a',kind:=b',id:=e,how:=f}].map iR).flatten),λp=>.slice p 0 2 (.kn 2)):=(rfl)
end
end Go.Proofs.Im
namespace Go.Im
def Wn(l:List Ml)(box:Int):List (Int×Ml):=l.flatMap λm=>(m.mem.filter λx=>decide (x.1=box)).map λx=>(x.2,m)
def thC(x:Int×Ml)(vk vs:V):List V:=iV x.1::dM x.2 vk vs
def Ce:El (Int×Ml):=λP h x cs=>∃vk vs,cs=thC x vk vs/\Rws P (flat fF) 1 h vk x.2.keys/\Rws P (flat dY) 2 h vs x.2.mem
theorem dS:Ce.Stable:=λ⟨vk,vm,e,a,b⟩ c d=>⟨vk,vm,e,a.ch (aK _) c d,b.ch (aK _) c d⟩
theorem aL0{l:List Ml}{box:Int}(b:∀m∈l,m.mem.length<=1000):(Wn l box).length<=l.length*1000:=by
 induction l with
 |nil=>simp[Wn]
 |cons a l c=>
  have:=c λm q=>b m (by simp[q]);have d:=b a (by simp);have e:(a.mem.filter λx=>decide (x.1=box)).length<=a.mem.length:=C! _ _;simp only[Wn,List.flatMap_cons,h!,e!,List.length_cons] at*;omega
theorem ayO(l:List Ml)(m:Ml)(box:Int):Wn (l++ [m]) box=Wn l box++(m.mem.filter λx=>decide (x.1=box)).map λx=>(x.2,m):=by simp[Wn]
end Go.Im
namespace Go.Vm
theorem dA.wide{α:Type}{b b':Nat}{P P':Pos->Prop}{E:El α}{el:TypeId}{w:Nat}{h:Hp}{v:V}{l:List α}(r:dA b P E el w h v l)(d:E.Stable)(hb:b'<=b)(f:∀j:Pos,j.nat<h.next.nat->P j->P' j):dA b' P' E el w h v l:=by
 obtain⟨c,a,i,s⟩:=r.mono d f;exact⟨c,a,i,s.base λj e=>Nat.le_trans hb (s.eY e).1⟩
end Go.Vm
namespace Go.Proofs.Im
section
variable{h h' g:Hp}{F I:Pos->Prop}{ps pl ib:Pos}{A:Acc}{cb:Cap}{fb:Bool}{vm vl:V}
abbrev zTh:List V:= [(Y U 0),(Y U 0),(Y U 0),(H []),(Y U 0),.aO,.aO,(Y U 0),(Y U 0)]
theorem aB4(a:Int)(h:Hp):nG [iV a] h=D (K false) h:=by
 rw[UH];have b:(a=a)=True:=eq_true rfl;simp only[vvB,seval,Eb,IL,IK,aU,cO,dn]
theorem aLf{a b:Int}(c:b<a)(h:Hp):zB [iV a,iV b] h=D (iV 1) h:=by
 rw[agC];have d:(a<b)=False:=eq_false (by omega);have e:(a>b)=True:=eq_true c;simp only[vvB,seval,IW,PZ,PY,PX,PW,PV,PU,NV,NU,aB4,d,e,aU,cO,dn]
theorem auE{x y:Int×Ml}{e i f s2:V}(d:x.1<y.1):∃h',qN [.agg (V.ofList (thC y f s2)),.agg (V.ofList (thC x e i))] g=D (iV 1) h'/\Nw g h':=by
 obtain⟨b,a⟩:∃b,b=g.new (O (N tTh true) (thC y f s2)):=⟨_,rfl⟩
 obtain⟨k,c,j,-⟩:=mkW b (O (N tTh true) (thC x e i));have l:Nw g b:=by rw[a];exact Nw.new _ _
 have e1:=(show Kn b g.next (O (N tTh true) (thC y f s2)) by rw[a];exact Kn.new _ _).nw j|>.ld (q:=0) (x:=iV y.1) rfl;have e2:=(show Kn k b.next (O (N tTh true) (thC x e i)) by rw[c];exact Kn.new _ _).ld (q:=0) (x:=iV x.1) rfl;refine⟨k,?_,l.trans j⟩;rw[an1];simp only[vvB,seval,Un,YB,YA,V.bW,<-a,<-c,e1,e2,aLf d];simp only[aU,cO,vvB,seval,dn]
theorem bTh(x:Int×Ml)(vk vs:V)(h:Hp):bU zTh [(0,1,iV x.1),(1,8,.agg (V.ofList (dM x.2 vk vs)))] h=D (.agg (V.ofList (thC x vk vs))) h:=(rfl)
theorem aOT(x:Int×Ml)(vk vs:V)(h:Hp):bJ tTh zTh 1 [(0,9,.agg (V.ofList (thC x vk vs)))] h=D (.slice h.next 0 1 (.kn 1)) (h.new (O (N tTh true) (thC x vk vs))):=(rfl)
theorem aoJ(e:FuncId->Option Fun)(k:∀x y g,dI e (.func (.func Wp) .nil .nil) [x,y] g=qN [x,y] g){P:Pos->Prop}{l:List (Int×Ml)}(n:l.Pairwise λx y=>x.1<y.1)(h:Hp):kE e P Ce h (.func (.func Wp) .nil .nil) l:=by
 rintro g i j x y q r c a o p ⟨s,u,e1,-,-⟩ ⟨t,s2,e2,-,-⟩ _ _;obtain⟨hi,b⟩:=a!.1 o;obtain⟨m,f⟩:=a!.1 p;have d:x.1<y.1:=by rw[<-b,<-f];exact List.pairwise_iff_getElem.1 n i j hi m a
 subst e1 e2;rw[k];exact auE d
theorem Wx(a:dJ h F ps A pl ib cb fb vm vl I)(hA:A.Small){box:Int}(hs:(Wn A.mails box).Pairwise λx y=>x.1<y.1)(ae:(Wn A.mails box).length<50):
  ∃r h',uX [X ps 0,iV box] h=D r h'/\gK h.next.nat Ce tTh 9 h' r (Wn A.mails box)/\Nw h h':=by
 obtain⟨r,p,e1,o1,c1⟩:=QI a hA;have R:=(o1.rws dB).mono (P':=λj=>h.next.nat<=j.nat/\j.nat<p.next.nat) dB λj hj q=>⟨q,hj⟩
 have hn:=hA.mails;have n1:=c1.next;rw[apH];show aW q! _ (λr h'=>gK h.next.nat Ce tTh 9 h' r (Wn A.mails box)/\Nw h h') _;simp only[vvB,seval,Xi,aci,ach,acg,adH,e1,R.len];refine Oc.then (dK (σ:=V) (n:=A.mails.length) (pi:=13) (pn:=12) (pc:=14) [5,11,1] (λv=> [v,r,iV box]) (λk v g=>Nw p g/\dA p.next.nat (λj=>h.next.nat<=j.nat/\j.nat<p.next.nat) Ce tTh 9 g v (Wn (A.mails.take k) box))
  (A:=λfr g=>∃v,fr.get (g! 5)=some v/\Nw p g/\dA p.next.nat (λj=>h.next.nat<=j.nat/\j.nat<p.next.nat) Ce tTh 9 g v (Wn A.mails box)) (B:=λfr g=>False) (s:=.aO)
  (λfr h _ k e1 e2=>by simp only[vvB,seval,acf,e1,e2]) (λfr h k _ e1=>by simp(disch:=omega)only[vvB,seval,YE,e1]) (by decide) (by rw[dO];omega) (qK0) (qK0) (by simp only[Fa,vvB,seval,and_self]) ⟨Nw.refl _,dA.nil _ _ _ _ _ _⟩ ?_ ?_) ?_ ?_
 ·intro k v fr g hk d t G P;obtain⟨w,b,f1,-⟩:=G;obtain⟨c,o⟩:=P;obtain⟨m,hm⟩:∃m,A.mails[k]?=some m:=⟨_,b! hk⟩
  obtain⟨i,q,cs,e1,⟨vk,vs,rfl,rk,rs⟩,-,-,-,-,e3⟩:=(R.nw dB c).elt hm;have C:=e3 g rfl;have ag:=hA.each m (c! hm);obtain⟨g2,W⟩:∃g2,g2=g.new (O (N tMl true) (dM m vk vs)):=⟨_,rfl⟩
  have S2:aQ 8 (X g.next 0) (.agg (V.ofList (dM m vk vs))) (g.new (O (N tMl true) zMl))=D V.undef g2:=by rw[W];exact ig (V.dG _) rfl rfl
  have c2:Nw g g2:=by rw[W];exact Nw.new _ _
  have k2:Kn g2 g.next (O (N tMl true) (dM m vk vs)):=by rw[W];exact Kn.new _ _
  have L5:=k2.ld (q:=5) (x:=vs) rfl;have ad:=rs.nw (aK _) c2;have ai:=rk.nw (aK _) c2;have af:(Wn (A.mails.take k) box).length<=1000*1000:=by
   have:=aL0 (l:=A.mails.take k) (box:=box) λm q=>(hA.each m (F! q)).2;rw[K!]at this;omega
  have am:=c.next;have an:=c2.next;simp only[vvB,seval,ace,acd,adG,b,d,e1,C,S2,L5,ad.len];refine Oc.out (Q:=λo=>Rd _ _ _ _ _ _ _ _ _ _ (Bz 1 o)) (dK (σ:=V) (n:=m.mem.length) (pi:=20) (pn:=19) (pc:=21) [5,11,1,7,18,13,12] (λv=> [v,r,iV box,X g.next 0,vs,iV k,iV A.mails.length]) (λj v g'=>Nw p g'/\(Kn g' g.next (O (N tMl true) (dM m vk vs))/\Rws (λj=>h.next.nat<=j.nat/\j.nat<p.next.nat) (flat fF) 1 g' vk m.keys/\Rws (λj=>h.next.nat<=j.nat/\j.nat<p.next.nat) (flat dY) 2 g' vs m.mem/\bC v≠some g.next)/\dA p.next.nat (λj=>h.next.nat<=j.nat/\j.nat<p.next.nat) Ce tTh 9 g' v (Wn (A.mails.take k) box++((m.mem.take j).filter λx=>decide (x.1=box)).map λx=>(x.2,m)))
   (A:=λfr g'=>∃v,Fa fr [5,11,1,13,12] [v,r,iV box,iV k,iV A.mails.length]/\Nw p g'/\dA p.next.nat (λj=>h.next.nat<=j.nat/\j.nat<p.next.nat) Ce tTh 9 g' v (Wn (A.mails.take (k+1)) box)) (B:=λfr g=>False) (s:=v)
   (λfr h _ k e1 e2=>by simp only[vvB,seval,ab9,e1,e2]) (λfr h k _ e1=>by simp(disch:=omega)only[vvB,seval,YF,e1]) (by decide) (by rw[dO];omega) (qK0) (qK0) (by simp only[Fa,vvB,seval,f1,d,t,w,b,and_self]) ⟨c.trans c2,⟨k2,ai,ad,λe=>by have:=(o.eY e).2;omega⟩,by simpa using o.nw dS c2⟩ ?_ ?_) ?_ ?_
  ·intro j v fr g' hj E ab G P;obtain⟨w,b,f1,f7,z,d,t,-⟩:=G;obtain⟨ca,⟨kq,aa,L,ac⟩,o⟩:=P;obtain⟨x,hx⟩:∃x,m.mem[j]?=some x:=⟨_,b! hj⟩
   obtain⟨i,q,cs,e1,e2,-,-,-,-,e3⟩:=L.elt hx;obtain rfl:cs=dY x:=e2;have C:=e3 g' rfl;obtain⟨J,Z⟩:∃J,J=g'.new (O (N tMb true) (dY x)):=⟨_,rfl⟩
   have S3:aQ 2 (X g'.next 0) (.agg (V.ofList (dY x))) (g'.new (O (N tMb true) [(Y U 0),(Y U 0)]))=D V.undef J:=by rw[Z];exact ig (V.dG _) rfl rfl
   have u:Nw g' J:=by rw[Z];exact Nw.new _ _
   have k3:Kn J g'.next (O (N tMb true) (dY x)):=by rw[Z];exact Kn.new _ _
   have L0:=k3.ld (q:=0) (x:=iV x.1) rfl;have L1:=k3.ld (q:=1) (x:=iV x.2) rfl;have LM:=(kq.nw u).ldN (n:=8) rfl;have ht:(m.mem.take (j+1))=m.mem.take j++ [x]:=take_snoc hx;by_cases hb:x.1=box
   ·have S:(x.1=box)=True:=eq_true hb;have ak:=ca.next;have al:=u.next;have ah:((Wn (A.mails.take k) box++((m.mem.take j).filter λx=>decide (x.1=box)).map λx=>(x.2,m)).length+1)*112<=140737488355328:=by
     have p:((m.mem.take j).filter λx=>decide (x.1=box)).length<=(m.mem.take j).length:=C! _ _;rw[K!]at p;rw[h!,e!];have:=ag.2;omega
    obtain⟨v',g4,e5,o5,M,n5,ev⟩:=(o.nw dS u).app1 (bt:=112) (x:=(x.2,m)) (cs:=thC (x.2,m) vk vs) (P':=λj=>h.next.nat<=j.nat/\j.nat<p.next.nat) dS (by omega) rfl (λ_ _ q=>q) ⟨vk,vs,rfl,aa.nw (aK _) u,L.nw (aK _) u⟩ (λj _ q e=>by have:=((o.nw dS u).eY e).1;omega) ah;have e6:bJ tTh zTh 1 [(0,9,.agg (V.ofList (thC (x.2,m) vk vs)))] J=_:=aOT (x.2,m) vk vs J;have e7:bU zTh [(0,1,iV x.2),(1,8,.agg (V.ofList (dM m vk vs)))] J=_:=bTh (x.2,m) vk vs J;simp only[vvB,seval,OD,OC,ab8,z,E,f1,w,f7,e1,C,S3,L0,L1,LM,S,e7,e6,e5];refine⟨qK2 E,qK2 ab,v',by simp only[Fa,vvB,seval,b,f1,f7,z,d,t,and_self],?_,?_,?_⟩
    ·exact(ca.trans u).own M λj e=>(o.eY e).1
    ·have hg:=kq.2;refine⟨(kq.nw u).ch M ac,(aa.nw (aK _) u).ch (aK _) M λj _ q=>⟨q,λe=>?_⟩,(L.nw (aK _) u).ch (aK _) M λj _ q=>⟨q,λe=>?_⟩,λe=>?_⟩
     ·have:=(o.eY e).1;omega
     ·have:=(o.eY e).1;omega
     ·rw[ev]at e;injection e with e;have:=congrArg Pos.nat e;rw[Pos.fG]at this;omega
    ·rw[ht,I!,r!,<-J!];simpa[hb]using o5
   ·have S:(x.1=box)=False:=eq_false hb;simp only[vvB,seval,OD,OC,z,E,f1,e1,C,S3,L0,S];refine⟨qK2 E,qK2 ab,v,by simp only[Fa,vvB,seval,w,b,f1,f7,z,d,t,and_self],ca.trans u,⟨kq.nw u,aa.nw (aK _) u,L.nw (aK _) u,ac⟩,?_⟩;rw[ht,I!,r!];simpa[hb]using o.nw dS u
  ·intro v fr g' G P;obtain⟨w,b,f1,f7,z,d,t,-⟩:=G;obtain⟨ca,aj,o⟩:=P;refine⟨v,by simp only[Fa,seval,w,b,f1,d,t,and_self],ca,?_⟩;rw[d!]at o;rw[take_snoc hm,ayO];exact o
  ·rintro fr g' ⟨v,G,ca,o⟩;obtain⟨w,b,f1,d,t,-⟩:=G;exact⟨d,t,v,by simp only[Fa,seval,w,b,f1,and_self],ca,o⟩
  ·intro fr g q;exact q.elim
 ·intro v fr g G P;obtain⟨w,b,-⟩:=G;obtain⟨c,o⟩:=P;rw[d!]at o;exact⟨v,w,c,o⟩
 ·rintro fr g ⟨v,w,c,o⟩;obtain⟨g5,e5,M⟩:=akp (f:=.func (.func Wp) .nil .nil) (o.rows (P':=λj=>h.next.nat<=j.nat) dS (λ_ _ q=>q.1) λ_ q _=>by omega) dS ae (aoJ _ (λ_ _ _=>rfl) hs _) (aoJ _ (λ_ _ _=>rfl) hs _) (aoJ _ (λ_ _ _=>rfl) hs _);simp only[vvB,seval,YD,YC,w,e5];exact aW.ret (r:=v) (qT0) ⟨(o.nw dS M).wide dS (by omega) λj hj q=>⟨q.1,λe=>by have:=(o.eY e).1;omega⟩,(c1.trans c).trans M⟩
 ·intro fr g q;exact q.elim
end
end Go.Proofs.Im
namespace Go.Im
structure Mg where
 uid:Int
 id:Int
 told:Int
 at_:Pos
def mgC(x:Mg):List V:= [iV x.uid,iV x.id,X x.at_ 0]
structure VwG (tV tM tA:TypeId) (b:Nat) (h:Hp) (pv:Pos) (box had:Int) (l:List Mg) (vv:V):Prop where
 vw:Kn h pv (O (N tV true) [iV box,vv,iV had])
 row:dA b (λ_=>False) (flat mgC) tM 3 h vv l
 told:∀x∈l,Kn h x.at_ (O (N tA true) [iV x.told])
 nd:(l.map (·.at_)).Nodup
 sep:∀x∈l,x.at_≠pv/\bC vv≠some x.at_
 nv:bC vv≠some pv
 lo:b<=pv.nat/\∀x∈l,b<=x.at_.nat
end Go.Im
namespace Go.Proofs.Im
section
variable{h h' g:Hp}{p pv:Pos}{vv:V}{b:Nat}{l:List Mg}{box had:Int}
abbrev aaE(b:Nat)(h:Hp)(pv:Pos)(box had:Int)(l:List Mg)(vv:V):Prop:=VwG tVw tVm tAt b h pv box had l vv
abbrev zVm:List V:= [(Y U 0),(Y U 0),.bY]
theorem aO4(x:Mg):eu tVm zVm 1 [(0,3,.agg (V.ofList (mgC x)))]=some (O (N tVm true) (mgC x),λp=>.slice p 0 1 (.kn 1)):=(rfl)
theorem bAt(h:Hp):bU [(Y U 0)] [] h=D (.agg (V.ofList [Y U 0])) h:=(rfl)
theorem aaE.nw(a:aaE b h pv box had l vv)(c:Nw h g):aaE b g pv box had l vv where
 vw:=a.vw.nw c
 row:=a.row.nw (aK _) c
 told:=λx q=>(a.told x q).nw c
 nd:=a.nd
 sep:=a.sep
 nv:=a.nv
 lo:=a.lo
theorem aF5{P:Pos->Prop}(a:aaE b h pv box had l vv)(hb:b<=h.next.nat)(hl:l.length<=1000){x:Int×Ml}{vk vs:V}:
  ∃u h' W q,abK [X pv 0,.agg (V.ofList (thC x vk vs))] h=D u h'/\aaE b h' pv box (max had x.1) (l++ [{uid:=x.1,id:=x.2.id,told:=x.2.mod,at_:=q}]) W/\Ch (λj=>j=pv\/bC vv=some j) h h'/\(∀j,bC W=some j->h.next.nat<=j.nat):=by
 obtain⟨d,L,c1,S⟩:=mkW h (O (N tTh true) (thC x vk vs));obtain⟨C,M,G,k2⟩:=mkW d (O (N tAt true) [Y U 0]);obtain⟨y,hy⟩:∃y:Mg,y={uid:=x.1,id:=x.2.id,told:=x.2.mod,at_:=d.next}:=⟨_,rfl⟩
 obtain⟨J,ad,B,k3⟩:=mkW C (O (N tVm true) (mgC y));have S3:aQ 3 (X C.next 0) (.agg (V.ofList (mgC y))) (C.new (O (N tVm true) zVm))=D V.undef J:=by rw[ad];exact ig (V.dG _) rfl rfl
 obtain⟨o,t⟩:∃o,o=J.put d.next (some (O (N tAt true) [iV x.2.mod])):=⟨_,rfl⟩
 have c4:Ch (λj=>j=d.next) J o:=by rw[t];exact Ch.put _ _ rfl
 obtain⟨u,e4⟩:=Jo (n:=x.2.mod) ((k2.nw B)) (q:=0) (by decide);have e4:mQ [X d.next 0,iV x.2.mod] J=D u o:=by rw[t];exact e4
 have k4:Kn o d.next (O (N tAt true) [iV x.2.mod]):=by rw[t];exact(k2.nw B).put _
 have B3:bU zVm [(0,1,iV x.1),(1,1,iV x.2.id),(2,1,X d.next 0)] C=D (.agg (V.ofList (mgC y))) C:=by subst hy;rfl
 have ai:=c1.next;have aj:=G.next;have ak:=B.next;have al:=c4.next;have b1:d.next.nat=h.next.nat+1:=by rw[L,bI]
 have b2:C.next.nat=d.next.nat+1:=by rw[M,bI]
 have ac:Nw h J:=(c1.trans G).trans B;have ae:=(S.nw (G.trans B)).ch c4 λe=>by have:=congrArg Pos.nat e;omega
 have ah:=k3.ch c4 λe=>by have:=congrArg Pos.nat e;omega
 have E:Nw h o:=ac.then c4 λj hj e=>by rw[e]at hj;omega
 have Z:=a.nw E;have L0:=(S.nw G).ld (q:=0) (x:=iV x.1) rfl;have aa:=S.ld (q:=0) (x:=iV x.1) rfl;have ab:=S.ld (q:=1) (x:=iV x.2.id) rfl;have T3:=k3.ld (q:=2) (x:=X d.next 0) (by subst hy;rfl);have M3:=(S.nw (G.trans B)).ld (q:=7) (x:=iV x.2.mod) rfl;have L4:=(Z.vw.bump 1).ld (q:=1) (x:=vv) rfl;have N4:=(ah.bump 1).ldN (n:=3) rfl;have am:=a.vw.2;obtain⟨w',h5,e5,o5,I,n5,f⟩:=Z.row.ao0 (bt:=24) (x:=y) (by omega) rfl (by omega);have v5:=Z.vw.ch I a.nv;have af:=ae.ch I λe=>by have:=(a.row.eY e).2;omega
 obtain⟨k,v⟩:∃k,k=h5.put pv (some (O (N tVw true) [iV box,w',iV had])):=⟨_,rfl⟩
 have S6:aQ 1 (X pv 1) w' h5=D V.undef k:=by rw[v];exact v5.st (q:=1) o5.cell (show 1<3 by omega)
 have v6:Kn k pv (O (N tVw true) [iV box,w',iV had]):=by rw[v];exact v5.put _
 have c6:Ch (λj=>j=pv) h5 k:=by rw[v];exact Ch.put _ _ rfl
 have ag:=af.ch c6 λe=>by have:=congrArg Pos.nat e;omega
 obtain⟨r,w⟩:∃r,r=k.put pv (some (O (N tVw true) [iV box,w',iV (max had x.1)])):=⟨_,rfl⟩
 have S7:aQ 1 (X pv 2) (iV (max had x.1)) k=D V.undef r:=by rw[w];exact v6.st (q:=2) ⟨rfl,rfl⟩ (show 2<3 by omega)
 have v7:Kn r pv (O (N tVw true) [iV box,w',iV (max had x.1)]):=by rw[w];exact v6.put _
 have c7:Ch (λj=>j=pv) k r:=by rw[w];exact Ch.put _ _ rfl
 have L6:=v6.ld (q:=2) (x:=iV had) rfl;have M6:=ag.ld (q:=0) (x:=iV x.1) rfl;have i:Ch (λj=>j=pv) h5 r:=c6.trans c7 λ_ _ q=>q;rw[axv];simp only[vvB,seval,akP,amZ,amY,amX,V.bW,<-L,aa,ab,bAt,<-M,B3,S3,T3,M3,e4];simp only[vvB,seval,amW,L4,N4,aO4,e5,S6];simp only[vvB,seval,amV,L6,M6,S7];refine⟨_,r,w',d.next,by simp only[aU,cO,seval,dn]<;>rfl,⟨v7,?_,?_,?_,?_,?_,?_⟩,?_,λj e=>by have:=f j e;omega⟩
 ·rw[<-hy];exact o5.ch (aK _) i (λj hj e=>by have:=f j hj;rw[e]at this;omega) λ_ _ q=>q.elim
 ·intro z c;rw[k!,t!]at c;rcases c with c|rfl
  ·have s:=a.sep z c;exact((Z.told z c).ch I s.2).ch i s.1
  ·exact((show Kn o d.next (O (N tAt true) [iV x.2.mod]) from k4).ch I λe=>by have:=(a.row.eY e).2;omega).ch i λe=>by have:=congrArg Pos.nat e;omega
 ·rw[r!,List.nodup_append];refine⟨a.nd,by simp,?_⟩;intro z c z' Q e;obtain⟨m,hm,rfl⟩:=w!.1 c;simp at Q;subst Q;have:=(a.told m hm).2
  rw[e]at this;omega
 ·intro z c;rw[k!,t!]at c;rcases c with c|rfl
  ·have s:=a.sep z c;have:=(a.told z c).2;exact⟨s.1,λe=>by have:=f _ e;omega⟩
  ·exact⟨λe=>by have:=congrArg Pos.nat e;simp only at this;omega,λe=>by have:=f _ e;simp only at this;omega⟩
 ·intro e;have:=f _ e;omega
 ·refine⟨a.lo.1,λz c=>?_⟩;rw[k!,t!]at c;rcases c with c|rfl
  ·exact a.lo.2 z c
  ·show b<=d.next.nat;omega
 ·exact(((Ch.refl _ h).trans E λ_ _ q=>q.elim).trans I λj _ e=>.inr e).trans i λj _ e=>.inl e
end
end Go.Proofs.Im
