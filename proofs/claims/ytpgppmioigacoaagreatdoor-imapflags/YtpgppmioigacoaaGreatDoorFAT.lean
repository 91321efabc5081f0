/- Lemmas. No conditions. -/
import Derived.Test.YtpgppmioigacoaaGreatDoorFAS
import Derived.Test.YtpgppmioigacoaaGreatDoorFAR
set_option linter.all false
set_option maxRecDepth 100000
open List renaming getElem?_eq_getElem→a!,take_length→b!,getElem?_eq_some_iff→c!,mem_of_getElem?→d!,length_map→g!,map_append→h!,findIdx?_cons→i!,take_add_one→l!,mem_append→o!,mem_singleton→p!,length_append→q!,mem_map→r!,getElem?_map→t!,eraseIdx_eq_take_drop_succ→v!,getElem?_append_left→x!,length_eq_zero_iff→y!,take_of_length_le→z!,length_filter_le→A!,mem_of_mem_take→D!,findIdx?_append→E!,filter_append→H!,append_assoc→J!,length_take→K!,length_set→M!
open Go.Vm.Pos renaming of→e!
open Go.Proofs.Tryz renaming prog→j!
open Bool renaming and_eq_true→k!,not_eq_true→L!
open Nat renaming ble→n!,zero_add→u!,ble_eq→w!,le_of_ble_eq_true→B!,ble_eq_true_of_le→C!,zero_le→F!,le_refl→G!,lt_of_lt_of_le→I!
open Go.Vm.V renaming int→Y,ptr→X,bool→K,str→H
open Go.IntKind renaming i64→U
open Go.Vm.Ob renaming cells→O
open Go.Vm.Wr renaming rw→N
open Go.Vm.R renaming ok→D
noncomputable section
open Go Go.Proofs Go.Vm Go.Im
namespace Go.Proofs.Im
section
variable{h h' g:Hp}{P:Pos->Prop}{pl p:Pos}{A:Acc}{vl:V}
abbrev zEn:List V:= [Y U 0,Y U 0,Y U 0,Y U 0]
def aT0(x:En):eH 85 zEn 1 [(0,4,.agg (V.ofList (iL x)))]=some (O (N 85 true) (iL x),λp=>.slice p 0 1 (.kn 1)):=(rfl)
def axb{v:V}{f c:Int}{ents es:List En}(lg:Kn h pl (O (N 130 true) [iV 10000,vl,iV f]))(o:dF 0 (λ_=>False) (flat iL) 85 4 h vl ents)(r:Rws P (flat iL) 4 h v es)
  (af:∀j,bI vl=some j->j≠pl) (hP:∀j:Pos,j.nat<h.next.nat->P j->j≠pl/\bI vl≠some j) (hc:∀e∈es,e.mod=c) (hl:∀e∈ents,e.mod<=c) (hn:ents.length+es.length<=10000):
  ∃u h' a,NH [X pl 0,v] h=D u h'/\Kn h' pl (O (N 130 true) [iV 10000,a,iV f])/\dF 0 (λ_=>False) (flat iL) 85 4 h' a (ents++es)/\Ch (λj=>j=pl\/bI vl=some j) h h'/\
   (∀j,bI a=some j->bI vl=some j\/h.next.nat<=j.nat):=by
 rw[azS]
 suffices T:aV j! [] (λu h'=>∃a,Kn h' pl (O (N 130 true) [iV 10000,a,iV f])/\dF 0 (λ_=>False) (flat iL) 85 4 h' a (ents++es)/\Ch (λj=>j=pl\/bI vl=some j) h h'/\(∀j,bI a=some j->bI vl=some j\/h.next.nat<=j.nat))
   (amn (T.set (some v) (e! 1) (T.set (some (X pl 0)) (e! 0) T.nil)) h) by
  obtain⟨u,h',e,a,q⟩:=T;exact⟨u,h',a,e,q⟩
 simp only[vvB,seval,amn,ao1,ao0,apB,fG,r.len];have ai:=lg.2;refine Oc.then (dP (σ:=V) (n:=es.length) (pi:=12) (pn:=11) (pc:=13) [0,10] (λ_=> [X pl 0,v])
  (λk w g=>Kn g pl (O (N 130 true) [iV 10000,w,iV f])/\dF 0 (λ_=>False) (flat iL) 85 4 g w (ents++es.take k)/\Ch (λj=>j=pl\/bI vl=some j) h g/\(∀j,bI w=some j->(bI vl=some j\/h.next.nat<=j.nat)/\j≠pl))
  (A:=λfr g=>fr.get (e! 0)=some (X pl 0)/\∃w,Kn g pl (O (N 130 true) [iV 10000,w,iV f])/\dF 0 (λ_=>False) (flat iL) 85 4 g w (ents++es)/\Ch (λj=>j=pl\/bI vl=some j) h g/\(∀j,bI w=some j->bI vl=some j\/h.next.nat<=j.nat)) (B:=λ_ _=>False) (s:=vl)
  (λfr h _ k e1 e2=>by simp only[vvB,seval,aoZ,e1,e2]) (λfr h k _ e1=>by simp(disch:=omega)only[vvB,seval,aoY,e1]) (by decide) (by rw[dR];omega) (qK0) (qK0) (by simp only[Fa,vvB,seval,and_self])
  ⟨lg,by simpa using o,Ch.refl _ _,λj q=>⟨.inl q,af j q⟩⟩ ?_ ?_) ?_ ?_
 ·intro k w fr g hk m ad fa hI;obtain⟨f0,d,-⟩:=fa;obtain⟨C,G,l,I⟩:=hI;obtain⟨x,hx⟩:∃x,es[k]?=some x:=⟨_,a! hk⟩
  have aj:=hc x (d! hx);obtain⟨i,q,cs,e1,e2,-,-,-,-,e3⟩:=(r.ch (P':=P) (aJ _) l λj hj pj=>⟨pj,λe=>e.elim (hP j hj pj).1 (hP j hj pj).2⟩).elt hx;obtain rfl:cs=iL x:=e2;have L:=e3 g rfl;obtain⟨g2,ae,S,k2⟩:=mkW g (O (N 85 true) (iL x));have S2:=mkT 4 zEn ae;have E:=C.nw S;have L2:=E.ld (q:=1) (x:=w) rfl;have M2:=k2.ld (q:=0) (x:=iV x.mod) rfl;have o2:=G.nw (aJ _) S;have b:(ents++es.take k).length=ents.length+k:=by simp;omega
  have J:=o2.len g2;rw[b]at J;obtain⟨w',g3,e5,o5,c5,n5,Q⟩:=o2.aIL (bt:=32) (x:=x) (F! _) rfl (by rw[b];omega);have k5:=E.ch c5 λe=>(I pl e).2 rfl;obtain⟨M,z⟩:∃M,M=g3.put pl (some (O (N 130 true) [iV 10000,w',iV f])):=⟨_,rfl⟩
  have S4:aS 1 (X pl 1) w' g3=D V.undef M:=by rw[z];exact k5.st (q:=1) o5.cell (show 1<3 by omega)
  have k4:Kn M pl (O (N 130 true) [iV 10000,w',iV f]):=by rw[z];exact k5.put _
  have c4:Ch (λj=>j=pl) g3 M:=by rw[z];exact Ch.put _ _ rfl
  have ah:=l.next;have n2:=S.next;have W:=(E.bump 1).ld (q:=1) (x:=w) rfl;have Z:=(k2.bump 1).ldN (n:=4) rfl;have fin:Rd [0,10] (λ(_:V)=> [X pl 0,v]) 12 11 k es.length (λw g=>Kn g pl (O (N 130 true) [iV 10000,w,iV f])/\dF 0 (λ_=>False) (flat iL) 85 4 g w (ents++es.take (k+1))/\Ch (λj=>j=pl\/bI vl=some j) h g/\(∀j,bI w=some j->(bI vl=some j\/h.next.nat<=j.nat)/\j≠pl))
    (λfr g=>fr.get (e! 0)=some (X pl 0)/\∃w,Kn g pl (O (N 130 true) [iV 10000,w,iV f])/\dF 0 (λ_=>False) (flat iL) 85 4 g w (ents++es)/\Ch (λj=>j=pl\/bI vl=some j) h g/\(∀j,bI w=some j->bI vl=some j\/h.next.nat<=j.nat)) (λ_ _=>False) 0
    (Dz 1 (abE (T.set (some (K false)) (e! 36) (T.set (some (Y U ((ents.length+k:Nat):Int))) (e! 6) (T.set (some (X g.next 0)) (e! 5) fr))) g2)):=by
   simp only[vvB,seval,abE,f0,W,Z,aT0,e5,S4];refine⟨qK2 m,qK2 ad,w',by simp only[Fa,vvB,seval,f0,d,and_self],k4,?_,?_,?_⟩
   ·rw[take_snoc hx,<-J!];exact o5.ch (aJ _) c4 (λj hj e=>by have:=Q j hj;rw[e]at this;omega) λ_ _ q=>q.elim
   ·exact((l.nw S).trans c5 λj hj e=>by have:=(I j e).1;rcases this with q|q;exact .inr q;omega).trans c4 λj _ e=>.inl e
   ·intro j e;have:=Q j e;exact⟨.inr (by omega),λe'=>by rw[e']at this;omega⟩
  by_cases hz:ents.length+k=0
  ·simp(disch:=omega)only[vvB,seval,abI,abH,abG,f0,d,m,e1,L,S2,L2,J];exact fin
  ·obtain⟨y,hy⟩:∃y,(ents++es.take k)[ents.length+k - 1]?=some y:=⟨_,a! (by rw[b];omega)⟩
   have ak:y.mod<=c:=by
    rcases o!.1 (d! hy) with q|q
    ·exact hl y q
    ·rw[hc y (D! q)];omega
   obtain⟨i',q',aa,ab,ac,-,-,-,ag,-⟩:=o2.aOR.elt hy;obtain rfl:aa=iL y:=ac;have l3:=ag g2 rfl 0 (iV y.mod) rfl;have hd:decide (x.mod<y.mod)=false:=decide_eq_false (by omega);have t:((ents.length+k:Nat):Int) - 1=((ents.length+k - 1:Nat):Int):=by omega
   simp(disch:=omega)only[vvB,seval,abI,abH,abG,f0,d,m,e1,L,S2,L2,M2,J,t,ab,l3,hd];exact fin
 ·intro w fr g fa hI;obtain⟨f0,d,-⟩:=fa;obtain⟨C,G,l,I⟩:=hI;rw[b!]at G;exact⟨f0,w,C,G,l,λj e=>(I j e).1⟩
 ·rintro fr g ⟨f0,w,C,G,l,I⟩;have L1:=C.ld (q:=1) (x:=w) rfl;have L0:=C.ld (q:=0) (x:=iV 10000) rfl;have J:=G.len g;rw[q!]at J;simp(disch:=omega)only[vvB,seval,aoX,aoW,f0,L1,L0,J];exact⟨_,g,rfl,w,C,G,l,I⟩
 ·intro fr g q;exact q.elim
end
end Go.Proofs.Im
namespace Go.Vm
def aS6{h:Hp}(x y:Int×Int):aia .eql [((.int U),0),((.int U),1)] (.agg (V.ofList (Go.Im.gW x))) (.agg (V.ofList (Go.Im.gW y))) h=D (K (decide (x=y))) h:=by
 refine(UC _ _ _ _).trans ?_;congr 2;obtain⟨a,b⟩:=x;obtain⟨c,d⟩:=y;simp[Prod.ext_iff]
end Go.Vm
namespace Go.Proofs.Im
section
variable{h h' g:Hp}{P:Pos->Prop}{A:Acc}{v:V}
def aq2{P:Pos->Prop}{h:Hp}{v:V}{l:List (List Nat)}(r:Rws P (flat dN) 1 h v l)(x:(List Nat))(hn:l.length<=1000000000):
  ∃h',yu [v,H x] h=D (Y U (fE (l.findIdx? λa=>decide (x=a)))) h'/\Nw h h':=by
 rw[ae0]
 suffices T:aV j! [.tmp 4] (λr h'=>r=Y U (fE (l.findIdx? λa=>decide (x=a)))/\Nw h h') (F6 (T.set (some (H x)) (e! 1) (T.set (some v) (e! 0) T.nil)) h) by
  obtain⟨r,h',e,rfl,c⟩:=T;exact⟨h',e,c⟩
 obtain⟨d,f⟩:∃d,d=h:=⟨_,rfl⟩
 have m:Nw h d:=by rw[f];exact Nw.refl _
 subst f;simp(disch:=omega)only[vvB,seval,F6,axJ,LG,r.len,PO,u!];refine Oc.then (dP (σ:=Unit) (n:=l.length) (pi:=8) (pn:=7) (pc:=9) [0,1] (λ_=> [v,H x]) (λk _ g=>g=d/\(l.take k).findIdx? (λa=>decide (x=a))=none)
  (A:=λfr g=>g=d/\l.findIdx? (λa=>decide (x=a))=none) (B:=λfr g=>fr.get (e! 4)=some (Y U (fE (l.findIdx? λa=>decide (x=a))))/\g=d) (s:=())
  (λfr h _ k e1 e2=>by simp only[vvB,seval,LD,e1,e2]) (λfr h k _ e1=>by simp(disch:=omega)only[vvB,seval,Lr,e1]) (by decide) (by rw[dR];omega) (qK0) (qK0) (by simp only[Fa,vvB,seval,and_self]) ⟨rfl,by simp⟩ ?_ ?_) ?_ ?_
 ·intro k _ fr g E o C u p;obtain⟨f0,f1,-⟩:=u;obtain⟨rfl,b⟩:=p;obtain⟨y,t⟩:∃y,l[k]?=some y:=⟨_,a! E⟩
  obtain⟨i,q,cs,e1,ex,I,hi,-,e2,G⟩:=(r.nw (aJ _) m).elt t;obtain rfl:cs=dN y:=ex;have w:aF (X i q) g=D (H y) g:=e2 g rfl 0 _ rfl;simp(disch:=omega)only[vvB,seval,LC,OW,f0,f1,o,e1,w,u!];by_cases j:x=y
  ·simp only[vvB,seval,j,Ls,o,decide_true];refine⟨?_,rfl⟩;simp only[vvB,seval];rw[lX t (by rw[<-j];exact b) (by simp)];rfl
  ·simp only[vvB,seval,j,decide_false];refine⟨qK2 o,qK2 C,(),by simp only[Fa,vvB,seval,f0,f1,and_self],rfl,?_⟩;rw[l!,t];simp[E!,b,j]
 ·intro _ fr g u p;obtain⟨rfl,b⟩:=p;rw[b!]at b;exact⟨rfl,b⟩
 ·rintro fr g ⟨rfl,b⟩;simp only[vvB,seval,Lm];exact aV.ret (qT0) ⟨by rw[b];rfl,m⟩
 ·rintro fr g ⟨z,rfl⟩;exact aV.ret (qT1 z) ⟨rfl,m⟩
def aq3{P:Pos->Prop}{h:Hp}{v:V}{l:List (Int×Int)}(r:Rws P (flat gW) 2 h v l)(x:(Int×Int))(hn:l.length<=1000000000):
  ∃h',yw [v,.agg (V.ofList (gW x))] h=D (Y U (fE (l.findIdx? λa=>decide (x=a)))) h'/\Nw h h':=by
 rw[ae1]
 suffices T:aV j! [.tmp 4] (λr h'=>r=Y U (fE (l.findIdx? λa=>decide (x=a)))/\Nw h h') (F9 (T.set (some (V.agg (V.ofList (gW x)))) (e! 1) (T.set (some v) (e! 0) T.nil)) h) by
  obtain⟨r,h',e,rfl,c⟩:=T;exact⟨h',e,c⟩
 obtain⟨m,p,f,J⟩:=mkW h (O (N 106 true) (gW x));have w:=J.ldN (n:=2) rfl;simp(disch:=omega)only[vvB,seval,F9,O9,LG,r.len,PS,V.cZ,<-p];refine Oc.then (dP (σ:=Unit) (n:=l.length) (pi:=8) (pn:=7) (pc:=9) [0,3] (λ_=> [v,X h.next 0]) (λk _ g=>g=m/\(l.take k).findIdx? (λa=>decide (x=a))=none)
  (A:=λfr g=>g=m/\l.findIdx? (λa=>decide (x=a))=none) (B:=λfr g=>fr.get (e! 4)=some (Y U (fE (l.findIdx? λa=>decide (x=a))))/\g=m) (s:=())
  (λfr h _ k e1 e2=>by simp only[vvB,seval,LD,e1,e2]) (λfr h k _ e1=>by simp(disch:=omega)only[vvB,seval,Lr,e1]) (by decide) (by rw[dR];omega) (qK0) (qK0) (by simp only[Fa,vvB,seval,and_self]) ⟨rfl,by simp⟩ ?_ ?_) ?_ ?_
 ·intro k _ fr g I j G u o;obtain⟨f0,f1,-⟩:=u;obtain⟨rfl,b⟩:=o;obtain⟨y,t⟩:∃y,l[k]?=some y:=⟨_,a! I⟩
  obtain⟨i,q,cs,e1,ex,L,hi,-,e2,z⟩:=(r.nw (aJ _) f).elt t;obtain rfl:cs=gW y:=ex;have C:=z g rfl;simp(disch:=omega)only[vvB,seval,LC,O5,f0,f1,j,e1,C,w,aS6];by_cases d:x=y
  ·simp only[vvB,seval,d,Ls,j,decide_true];refine⟨?_,rfl⟩;simp only[vvB,seval];rw[lX t (by rw[<-d];exact b) (by simp)];rfl
  ·simp only[vvB,seval,d,decide_false];refine⟨qK2 j,qK2 G,(),by simp only[Fa,vvB,seval,f0,f1,and_self],rfl,?_⟩;rw[l!,t];simp[E!,b,d]
 ·intro _ fr g u o;obtain⟨rfl,b⟩:=o;rw[b!]at b;exact⟨rfl,b⟩
 ·rintro fr g ⟨rfl,b⟩;simp only[vvB,seval,Lm];exact aV.ret (qT0) ⟨by rw[b];rfl,f⟩
 ·rintro fr g ⟨E,rfl⟩;exact aV.ret (qT1 E) ⟨rfl,f⟩
def Ew{l:List (List Nat)}(r:Rws P (flat dN) 1 h v l)(x:List Nat)(hn:l.length<=1000000000):∃h',kU [v,H x] h=D (K (l.any λa=>decide (x=a))) h'/\Nw h h':=by
 obtain⟨c,e1,b⟩:=aq2 r x hn;rw[YM];simp(disch:=omega)only[vvB,seval,LZ,af7,G9,e1];exact⟨c,by simp only[bV,bQ,vvB,seval,bT];rw[Aj],b⟩
def aiM{l:List (Int×Int)}(r:Rws P (flat gW) 2 h v l)(x:Int×Int)(hn:l.length<=1000000000):∃h',kV [v,.agg (V.ofList (gW x))] h=D (K (l.any λa=>decide (x=a))) h'/\Nw h h':=by
 obtain⟨h0,b,c,f⟩:=mkW h (O (N 106 true) (gW x));obtain⟨e,e1,d⟩:=aq3 (r.nw (aJ _) c) x hn;rw[YN];simp(disch:=omega)only[vvB,seval,Mc,HY,Hw,V.cZ,<-b,f.ldN (n:=2) rfl,e1];exact⟨e,by simp only[bV,bQ,vvB,seval,bT];rw[Aj],c.trans d⟩
def aay{P':Pos->Prop}{w:V}{l m:List (List Nat)}(r:Rws P (flat dN) 1 h v l)(s:Rws P' (flat dN) 1 h w m)(hn:l.length<=1000000000):yx [v,w] h=D (K (decide (l=m))) h:=by
 rw[ae2]
 suffices T:aV j! [.tmp 4] (λr h'=>r=K (decide (l=m))/\h'=h) (x9 (T.set (some w) (e! 1) (T.set (some v) (e! 0) T.nil)) h) by
  obtain⟨r,h',e,rfl,rfl⟩:=T;exact e
 by_cases a:l.length=m.length
 ·have d:¬((l.length:Int)≠(m.length:Int)):=by omega
  simp(disch:=omega)only[vvB,seval,x9,af7,AQ,Pq,r.len,s.len,PU,a];refine Oc.then (dP (σ:=Unit) (n:=m.length) (pi:=13) (pn:=12) (pc:=14) [0,1] (λ_=> [v,w]) (λk _ g=>g=h/\l.take k=m.take k)
   (A:=λfr g=>g=h/\l=m) (B:=λfr g=>fr.get (e! 4)=some (K (decide (l=m)))/\g=h) (s:=())
   (λfr h _ k e1 e2=>by simp only[vvB,seval,Po,e1,e2]) (λfr h k _ e1=>by simp(disch:=omega)only[vvB,seval,Pg,e1]) (by decide) (by rw[dR];omega) (qK0) (qK0) (by simp only[Fa,vvB,seval,and_self]) ⟨rfl,by simp⟩ ?_ ?_) ?_ ?_
  ·intro k _ fr g L c u C b;obtain⟨f0,f1,-⟩:=C;obtain⟨rfl,b⟩:=b;obtain⟨x,j⟩:∃x,l[k]?=some x:=⟨_,a! (by omega)⟩
   obtain⟨y,z⟩:∃y,m[k]?=some y:=⟨_,a! L⟩
   obtain⟨i,q,cs,e1,ex,-,-,-,e2,-⟩:=r.elt j;obtain rfl:cs=dN x:=ex;obtain⟨i',M,o,p,I,-,-,-,t,-⟩:=s.elt z;obtain rfl:o=dN y:=I;have E:aF (X i q) g=D (H x) g:=e2 g rfl 0 _ rfl;have G:aF (X i' M) g=D (H y) g:=t g rfl 0 _ rfl;simp(disch:=omega)only[vvB,seval,Pm,Pj,f0,f1,c,e1,p,E,G];by_cases f:x=y
   ·have Q:¬(x≠y):=λq=>q f;simp only[vvB,seval,f];refine⟨qK2 c,qK2 u,(),by simp only[Fa,vvB,seval,f0,f1,and_self],rfl,?_⟩;rw[l!,l!,j,z,b,f]
   ·simp only[vvB,seval,f,af7];refine⟨?_,rfl⟩;simp only[vvB,seval];rw[decide_eq_false];intro e;rw[e,z]at j;exact f (Option.some.inj j).symm
  ·intro _ fr g C b;obtain⟨rfl,b⟩:=b;rw[b!,<-a,b!]at b;exact⟨rfl,b⟩
  ·rintro fr g ⟨rfl,b⟩;simp only[vvB,seval,Pe];exact aV.ret (qT0) ⟨by rw[decide_eq_true b],rfl⟩
  ·rintro fr g ⟨J,rfl⟩;exact aV.ret (qT1 J) ⟨rfl,rfl⟩
 ·have d:((l.length:Int)=(m.length:Int))=False:=eq_false (by omega);simp(disch:=omega)only[vvB,seval,x9,af7,AQ,af7,r.len,s.len,d];exact aV.ret (qT0) ⟨by rw[decide_eq_false λe=>a (by rw[e])],rfl⟩
end
end Go.Proofs.Im
namespace Go.Vm
def Jf(c:Nat):Bool:=n! 33 c&&n! c 126&&!decide (FT c [40,41,123,125,37,42,34,92,93]>=0)
def WQ(s:List Nat):Bool:=s.all Jf&&!decide (s= [])
def EC(s:List Nat):Bool:=WQ s&&n! s.length 64&&decide (foldM s=s)
end Go.Vm
namespace Go.Proofs.Im
section
variable{h h' g:Hp}{P:Pos->Prop}{A:Acc}{v:V}
def Zq{s:List Nat}{c:Nat}(a:c<256):Cc [H s,Y .u8 (c:Int)] h=D (Y U (FT c s)) h:=by
 have e:yD [H s,Y .u8 (c:Int)] h=D (Y U (FT c s)) h:=by
  show(match Nat.blt c 256 with|true=>iM U (FT c s) h|false=>.bad)=_;rw[show Nat.blt c 256=true by rw[Nat.blt_eq];exact a];exact gZ _ _ _
 rw[aiJ];have e2:BZ [H s,Y .u8 (c:Int)] h=D (Y U (FT c s)) h:=by
  rw[aiI];simp only[vvB,seval,aam,axJ,UU,e];simp only[bV,bQ,vvB,seval,bT]
 simp only[vvB,seval,aan,axJ,U7,e2];simp only[bV,bQ,vvB,seval,bT]
def af2{s:List Nat}(hl:s.length<1000000000)(u:∀c∈s,c<256):wZ [H s] h=D (K (WQ s)) h:=by
 rw[aye]
 suffices T:aV j! [.tmp 2] (λr h'=>r=K (WQ s)/\h'=h) (ahn (T.set (some (H s)) (e! 0) T.nil) h) by
  obtain⟨r,h',e,rfl,rfl⟩:=T;exact e
 simp(disch:=omega)only[vvB,seval,ahn,ajr,ajq,ak7];refine Oc.then (dP (σ:=Unit) (n:=s.length) (pi:=6) (pn:=5) (pc:=7) [0] (λ_=> [H s]) (λk _ g=>g=h/\(s.take k).all Jf=true)
  (A:=λfr g=>fr.get (e! 0)=some (H s)/\g=h/\s.all Jf=true) (B:=λfr g=>fr.get (e! 2)=some (K (WQ s))/\g=h) (s:=())
  (λfr h _ k e1 e2=>by simp only[vvB,seval,ajp,e1,e2]) (λfr h k _ e1=>by simp(disch:=omega)only[vvB,seval,ajo,e1]) (by decide) (by rw[dR];omega) (qK0) (qK0) (by simp only[Fa,vvB,seval,and_self]) ⟨rfl,by simp⟩ ?_ ?_) ?_ ?_
 ·intro k _ fr g t d q m b;obtain⟨f0,-⟩:=m;obtain⟨rfl,b⟩:=b;obtain⟨c,j⟩:∃c,s[k]?=some c:=⟨_,a! t⟩
  have a:=u c (d! j);have ex:jY (H s) (Y U (k:Int)) g=D (Y .u8 (c:Int)) g:=Tf j;have bad:Jf c=false->fr.get (e! 6)=fr.get (e! 6)->WQ s=false:=λe _=>by
   unfold WQ;rw[show s.all Jf=false from ?_];rfl;rw[List.all_eq_false];exact⟨c,d! j,by rw[e];simp⟩
  by_cases x:c<33
  ·have f:((c:Int)<33)=True:=eq_true (by omega);simp(disch:=omega)only[vvB,seval,EH,EG,ajr,f0,d,ex,f];exact⟨by simp only[vvB,seval];rw[bad (by unfold Jf;rw[show n! 33 c=false by rw[<-L!,w!];omega];rfl) rfl],rfl⟩
  ·have f:((c:Int)<33)=False:=eq_false (by omega);by_cases y:126<c
   ·have l:((c:Int)>126)=True:=eq_true (by omega);simp(disch:=omega)only[vvB,seval,EH,EG,ajr,f0,d,ex,f,l];exact⟨by simp only[vvB,seval];rw[bad (by unfold Jf;rw[show n! c 126=false by rw[<-L!,w!];omega];simp) rfl],rfl⟩
   ·have l:((c:Int)>126)=False:=eq_false (by omega);have p:Jf c=!decide (FT c [40,41,123,125,37,42,34,92,93]>=0):=by
     unfold Jf;rw[show n! 33 c=true by rw[w!];omega,show n! c 126=true by rw[w!];omega];rfl
    by_cases i:FT c [40,41,123,125,37,42,34,92,93]>=0
    ·have o:=eq_true i;simp(disch:=omega)only[vvB,seval,EH,EG,ajr,f0,d,ex,f,l,Zq a,o];exact⟨by simp only[vvB,seval];rw[bad (by rw[p,decide_eq_true i];rfl) rfl],rfl⟩
    ·have o:=eq_false i;simp(disch:=omega)only[vvB,seval,EH,EG,f0,d,ex,f,l,Zq a,o];refine⟨qK2 d,qK2 q,(),by simp only[Fa,vvB,seval,f0,and_self],rfl,?_⟩;rw[take_snoc j,List.all_append,b];simp[p,i]
 ·intro _ fr g m b;obtain⟨f0,-⟩:=m;obtain⟨rfl,b⟩:=b;rw[b!]at b;exact⟨f0,rfl,b⟩
 ·rintro fr g ⟨f0,rfl,b⟩;simp(disch:=omega)only[vvB,seval,ajn,f0];refine aV.ret (qT0) ⟨?_,rfl⟩;unfold WQ;rw[b];by_cases w:s= []<;>simp[w]
 ·rintro fr g ⟨f2,rfl⟩;exact aV.ret (qT1 f2) ⟨rfl,rfl⟩
def apO{s:List Nat}(d:EC s=true):∃h',TP [H s] h=D (K true) h'/\Nw h h':=by
 unfold EC at d;rw[k!,k!]at d;obtain⟨⟨a,hl⟩,k⟩:=d;have l:s.length<=64:=B! hl;have b:foldM s=s:=of_decide_eq_true k;have e:∀c∈s,c<256:=λc j=>by
  unfold WQ at a;rw[k!]at a;have:=List.all_eq_true.1 a.1 c j;unfold Jf at this;rw[k!,k!]at this;have:=B! this.1.2;omega
 obtain⟨i,e1,f⟩:=aqt (h:=h) (s:=s) (by omega) e;rw[b]at e1;rw[atV];simp(disch:=omega)only[vvB,seval,apj,ajr,ag5,af2 (h:=h) (s:=s) (by omega) e,a,e1];exact⟨i,by simp only[bV,bQ,vvB,seval,bT]<;>rfl,f⟩
def aiY(x:V)(g:Hp):dD kz (.func (.func 79) .nil .nil) [x] g=TQ [x] g:=(rfl)
def ato{l:List (List Nat)}(r:Rws P (flat dN) 1 h v l)(G:∀k∈l,EC k=true)(hn:l.length<=1):
  ∃w h',IJ [v] h=D (.tuple (.cons w (.cons (iV 0) .nil))) h'/\Rws (λj=>h.next.nat<=j.nat) (flat dN) 1 h' w l/\Nw h h':=by
 obtain⟨B,e1,c⟩:=IK r (aJ _) (λ_=>false) (by omega) (f:=.func (.func 79) .nil .nil) (λa x g C I e=>by
  cases(show [x]= [H a] from e);obtain⟨z,e2,d⟩:=apO (h:=g) (G a C);refine⟨z,?_,d⟩;rw[aiY,aeS];simp only[vvB,seval,ab9,ajr,VP,e2];simp only[bV,bQ,vvB,seval,bT])
 rw[show(l.any λ_=>false)=false by simp]at e1;obtain⟨w,o,e2,r2,d,i⟩:=CB (r.nw (aJ _) c) (by omega);have E:=c.next;have s:∃u b,mQ [w] o=D u b/\Rws (λj=>B.next.nat<=j.nat) (flat dN) 1 b w l/\Nw h b:=by
  rcases i with rfl|i
  ·exact⟨_,o,Zt (r2.len o),r2,c.trans d⟩
  ·obtain⟨b,n,t,m⟩:=acR i (by omega);rw[BO _ hn]at t;exact⟨_,b,n,t.rows (aJ _) (λ_ _ q=>q.elim) λ_ q _=>q,(c.trans d).then m λj hj e=>by have:=(i.eY e).1;omega⟩
 obtain⟨u,b,n,p,m⟩:=s;have y:=amD p hn;rw[ahP];simp(disch:=omega)only[vvB,seval,ahy,YB,YA,Yz,Yy,Yx,Yw,Yv,e1,e2,n,y,p.len];exact⟨w,b,by simp only[bV,bQ,vvB,seval,bT]<;>rfl,p.mono (aJ _) λj _ q=>by omega,m⟩
end
end Go.Proofs.Im
namespace Go.Im
def updB(id:Int)(f:Bx->Bx):List Bx->List Bx
 | []=> []
 |b::l=>if b.id=id then f b::l else b::updB id f l
def alc{id:Int}{f:Bx->Bx}:∀{l:List Bx} {i:Nat},l.findIdx? (λb=>decide (b.id=id))=some i->∃b,l[i]?=some b/\updB id f l=l.set i (f b)
 | [],i,e=>by simp at e
 |b::l,i,e=>by
  rw[i!]at e;by_cases hb:b.id=id
  ·rw[if_pos (by simpa using hb)]at e;cases e;exact⟨b,rfl,by simp[updB,hb]⟩
  ·rw[if_neg (by simpa using hb)]at e;cases a:l.findIdx? (λb=>decide (b.id=id)) with
   |none=>rw[a]at e;cases e
   |some k=>
    rw[a]at e;cases e;obtain⟨c,d,j⟩:=alc (f:=f) a;exact⟨c,d,by simp[updB,hb,j]⟩
def auB(id:Int)(f:Bx->Bx)(l:List Bx):(updB id f l).length=l.length:=by
 induction l with
 |nil=>rfl
 |cons b l a=>unfold updB;split<;>simp[a]
def arL{id k:Int}{f:Bx->Bx}(a:∀b,(f b).id=b.id)(l:List Bx):(updB id f l).findIdx? (λb=>decide (b.id=k))=l.findIdx? (λb=>decide (b.id=k)):=by
 induction l with
 |nil=>rfl
 |cons b l c=>
  unfold updB;split
  ·rw[i!,i!,a]
  ·rw[i!,i!,c]
def jX(mod:Int):List Int->List Bx->List Bx
 | [],l=>l
 |id::r,l=>jX mod r (updB id (λb=>{b with mod:=mod}) l)
def amH(mod id:Int):∀(r:List Int) (l:List Bx),jX mod (r++ [id]) l=updB id (λb=>{b with mod:=mod}) (jX mod r l)
 | [],_=>rfl
 |_::r,l=>amH mod id r _
def amI{k mod:Int}:∀(r:List Int) (l:List Bx),(jX mod r l).findIdx? (λb=>decide (b.id=k))=l.findIdx? (λb=>decide (b.id=k))
 | [],_=>rfl
 |id::r,l=>(amI r _).trans (arL (f:=λb=>{b with mod:=mod}) (λ_=>rfl) l)
def arM(mod:Int):∀(r:List Int) (l:List Bx),(jX mod r l).length=l.length
 | [],_=>rfl
 |id::r,l=>(arM mod r _).trans (auB _ _ l)
def lq(mod id:Int):En:={mod:=mod,kind:=1,id:=id,how:=2}
end Go.Im
namespace Go.Proofs.Im
section
variable{h h' g:Hp}{F I P:Pos->Prop}{ps pl ib:Pos}{A:Acc}{cb:Cap}{fb:Bool}{v vm vl:V}
def dL.aKe(a:dL h F ps A pl ib cb fb vm vl I){B:List Bx}(hl:B.length=A.boxes.length):dL (h.put ib (some (O (N 55 fb) (B.map gY).flatten))) F ps {A with boxes:=B} pl ib cb fb vm vl I:=by
 have c:Ch (λj=>j=ib) h (h.put ib (some (O (N 55 fb) (B.map gY).flatten))):=Ch.put _ _ rfl;have ne:=a.ne;refine⟨?_,a.lg.ch c λe=>ne.2.2 e,a.bx.put _,by show zn 6 (.slice ib 0 B.length cb);rw[hl];exact a.cap,?_,?_,a.ne,a.nm,a.nl,a.inn,a.foot,a.lt,a.enil⟩
 ·have e:stC {A with boxes:=B} ib cb vm pl=stC A ib cb vm pl:=by unfold stC;simp only[hl]
  rw[e];exact a.st.ch c λe=>ne.2.1 e
 ·obtain⟨b,x,d,r⟩:=a.ml;refine⟨b,x.mono λ_ _ e=>dI e c λj _ q=>⟨q,λe=>(a.inn j q).2.2.2.1 e⟩,d,r.imp id λ⟨i,f,rest,e,k⟩=>⟨i,f,rest,e,k.ch c λl=>?_⟩⟩;exact(a.nm i (by rw[e];rfl)).2.2.1 l
 ·obtain⟨b,x,d,s⟩:=a.en;exact⟨b,x.mono λ_ _ e=>e,d,s.ch c λj hj e=>(a.nl j hj).2.2 e⟩
def sN{sz:Nat}{i:Pos}{n m:Nat}{c:Cap}(a:m<n)(g:Hp):aX sz (.slice i 0 n c) (Y U (m:Int)) g=D (X i (m*sz)) g:=by rw[oD a,u!]
def aTR(x:En)(h:Hp):bU 85 zEn 1 [(0,4,.agg (V.ofList (iL x)))] h=D (.slice h.next 0 1 (.kn 1)) (h.new (O (N 85 true) (iL x))):=(rfl)
def aC7(a b c d:Int)(h:Hp):bW zEn [(0,1,Y U a),(1,1,Y U b),(2,1,Y U c),(3,1,Y U d)] h=D (.agg (V.ofList (iL {mod:=a,kind:=b,id:=c,how:=d}))) h:=(rfl)
def dL.aQP(a:dL h F ps A pl ib cb fb vm vl I){k f:Nat}{b:Bx}(i:A.boxes[k]?=some b)(j:f<6){y:Int}{b':Bx}(hb:(gY b).set f (iV y)=gY b'):
  aS 1 (X ib (k*6+f)) (iV y) h=D V.undef (h.put ib (some (O (N 55 fb) ((A.boxes.set k b').map gY).flatten))):=by
 have l:=(c!.1 i).1;have e:∀d∈A.boxes.map gY,d.length=6:=λd hd=>by obtain⟨x,_,rfl⟩:=r!.1 hd;rfl
 have c:(A.boxes.map gY).flatten.length=A.boxes.length*6:=by rw[ji e,g!]
 rw[a.bx.st ⟨rfl,rfl⟩ (by rw[c];omega),alC e (by rw[t!,i];rfl) j,hb,List.map_set]
def ai1(a:dL h F ps A pl ib cb fb vm vl I)(hA:A.Small){p l:List Int}(r:Rws P (flat iG) 1 h v p)(hn:p.length<=12)(mod:Int)(hl:gu ltI p.length p=l)(ai:∀(k:Nat) x y,l[k]?=some x->l[k+1]?=some y->x≠y)
  (hb:∀id∈l,∃i,A.boxes.findIdx? (λb=>decide (b.id=id))=some i):
  ∃w h',EZ [X ps 0,iV mod,v] h=D w h'/\dL h' F ps {A with boxes:=jX mod l A.boxes} pl ib cb fb vm vl I/\Rws (λj=>h.next.nat<=j.nat) (flat iL) 4 h' w (l.map (lq mod))/\aiC w l.length/\Ch (λj=>j=ib) h h':=by
 obtain⟨w1,h1,e1,r1,c1,o1⟩:=ala r (by omega);have aq:l.length=p.length:=by rw[<-hl,xJ]
 have n1:=c1.next;have ap:=a.bx.2;have am:∃u m,oO [w1] h1=D u m/\Rws (λj=>h.next.nat<=j.nat) (flat iG) 1 m w1 l/\Nw h m:=by
  rcases o1 with rfl|o1
  ·have:l= []:=by rw[<-hl];rfl
   rw[this];exact⟨_,h1,ai3 (r1.len h1),r1,c1⟩
  ·obtain⟨m,e2,o2,Z⟩:=an3 o1 (by omega);rw[hl]at o2;exact⟨_,m,e2,o2.rows (aJ _) (λ_ _ q=>q.elim) λ_ q _=>q,c1.then Z λj hj e=>by have:=(o1.eY e).1;omega⟩
 obtain⟨u,m,e2,r2,Z⟩:=am;have e3:=atY r2 (by omega) ai;have a2:=a.nw Z;have n2:=Z.next;rw[ars];show aV j! _ (λw h'=>dL h' F ps {A with boxes:=jX mod l A.boxes} pl ib cb fb vm vl I/\Rws (λj=>h.next.nat<=j.nat) (flat iL) 4 h' w (l.map (lq mod))/\aiC w l.length/\Ch (λj=>j=ib) h h') _;simp(disch:=omega)only[vvB,seval,akU,adq,adp,ado,adn,adl,e1,e2,e3,r2.len,aeO];refine Oc.then (dP (σ:=V) (n:=l.length) (pi:=18) (pn:=17) (pc:=19) [0,1,8,16] (λo=> [X ps 0,iV mod,o,w1])
  (λk o g=>dL g F ps {A with boxes:=jX mod (l.take k) A.boxes} pl ib cb fb vm vl I/\dF m.next.nat (λ_=>False) (flat iL) 85 4 g o ((l.take k).map (lq mod))/\Ch (λj=>j=ib) m g)
  (A:=λfr g=>∃o,fr.get (e! 8)=some o/\dL g F ps {A with boxes:=jX mod l A.boxes} pl ib cb fb vm vl I/\dF m.next.nat (λ_=>False) (flat iL) 85 4 g o (l.map (lq mod))/\Ch (λj=>j=ib) m g) (B:=λ_ _=>False) (s:=.aP)
  (λfr h _ k e1 e2=>by simp only[vvB,seval,adk,e1,e2]) (λfr h k _ e1=>by simp(disch:=omega)only[vvB,seval,adf,e1]) (by decide) (by rw[dR];omega) (qK0) (qK0) (by simp only[Fa,vvB,seval,and_self])
  ⟨a2,dF.nil _ _ _ _ _ _,Ch.refl _ _⟩ ?_ ?_) ?_ ?_
 ·intro k o fr g hk aa ae fa hI;obtain⟨f0,f1,f8,Q,-⟩:=fa;obtain⟨C,t,M⟩:=hI;obtain⟨id,z⟩:∃id,l[k]?=some id:=⟨_,a! hk⟩
  obtain⟨i,q,cs,e4,ex,-,-,-,l4,-⟩:=(r2.ch (P':=λ_=>True) (aJ _) M λj hj pj=>⟨trivial,λe=>by rw[e]at pj;omega⟩).elt z;obtain rfl:cs=iG id:=ex;have L4:aF (X i q) g=D (iV id) g:=l4 g rfl 0 _ rfl;obtain⟨bi,S⟩:=hb id (d! z);have G:(jX mod (l.take k) A.boxes).findIdx? (λb=>decide (b.id=id))=some bi:=by rw[amI];exact S
  obtain⟨b,ab,af⟩:=alc (f:=λb=>{b with mod:=mod}) G;have aj:({A with boxes:=jX mod (l.take k) A.boxes}:Acc).Small:=⟨hA.clock,by show 0<(jX mod (l.take k) A.boxes).length/\_;rw[arM];exact hA.boxes,hA.mails,hA.ents,hA.each⟩
  obtain⟨g2,e5,c5⟩:=aby C aj id;simp only[G,fE]at e5;have J:=C.nw c5;have Lb:=J.st.ld (q:=10) (x:=.slice ib 0 (jX mod (l.take k) A.boxes).length cb) rfl;have ac:=C.st.ld (q:=10) (x:=.slice ib 0 (jX mod (l.take k) A.boxes).length cb) rfl;have ah:=(c!.1 ab).1;obtain⟨E,W⟩:∃E,E=g2.put ib (some (O (N 55 fb) (((jX mod (l.take k) A.boxes).set bi {b with mod:=mod}).map gY).flatten)):=⟨_,rfl⟩
  have S3:aS 1 (X ib (bi*6+5)) (iV mod) g2=D V.undef E:=by rw[W];exact J.aQP ab (by omega) rfl
  have ad:dL E F ps {A with boxes:=jX mod (l.take (k+1)) A.boxes} pl ib cb fb vm vl I:=by
   rw[take_snoc z,amH,af,W];exact J.aKe (by rw[M!])
  have L:Ch (λj=>j=ib) g2 E:=by rw[W];exact Ch.put _ _ rfl
  have ao:=M.next;have n5:=c5.next;have av:=L.next;have al:dF m.next.nat (λ_=>False) (flat iL) 85 4 E o ((l.take k).map (lq mod)):=(t.nw (aJ _) c5).ch (aJ _) L (λj hj e=>by have:=(t.eY hj).1;rw[e]at this;omega) λ_ _ q=>q.elim;obtain⟨o',g4,e6,o6,c6,n6,ar⟩:=al.aIL (bt:=32) (x:=lq mod id) (by omega) rfl (by simp;omega);have e6:bZ 85 4 32 o (.slice E.next 0 1 (.kn 1)) (E.new (O (N 85 true) (iL {mod:=mod,kind:=1,id:=id,how:=2})))=D o' g4:=e6;simp(disch:=omega)only[vvB,seval,adi,adh,adg,f0,f1,f8,Q,aa,e4,L4,e5,Lb,qw rfl ac,sN ah,S3,aC7,aTR,e6];refine⟨qK2 aa,qK2 ae,o',by simp only[Fa,vvB,seval,f0,f1,Q,and_self],ad.ch c6 λj f e=>by have:=a2.lt j f;have:=(t.eY e).1;omega,?_,?_⟩
  ·rw[take_snoc z,h!];exact o6
  ·exact((M.nw c5).trans L λ_ _ q=>q).trans c6 λj hj e=>by have:=(t.eY e).1;omega
 ·intro o fr g fa hI;obtain⟨f0,f1,f8,Q,-⟩:=fa;obtain⟨C,t,M⟩:=hI;rw[b!]at C t;exact⟨o,f8,C,t,M⟩
 ·rintro fr g ⟨o,f8,C,t,M⟩;have ol:=t.len g;rw[g!]at ol;have fin:∃w,fM 4 o none (some (Y U (l.length:Int))) (some (Y U (l.length:Int))) g=D w g/\Rws (λj=>h.next.nat<=j.nat) (flat iL) 4 g w (l.map (lq mod))/\aiC w l.length:=by
   by_cases hz:l= []
   ·obtain⟨an,x,hw,s⟩:=t;rcases s.is with⟨_,rfl⟩|⟨i,rfl,S,hi,f,hg⟩
    ·subst hz;exact⟨.aP,rfl,Rws.aP _ _ _ _,.inl ⟨rfl,rfl⟩⟩
    ·subst hz;refine⟨.slice i 0 0 (.kn 0),by simp only[List.map_nil,List.length_nil];rfl,?_,.inr ⟨i,rfl⟩⟩;cases x;exact⟨[],.nil,λ_ q=>(by cases q),⟨by simp,.inr ⟨i,0,_,N 85 f,_,rfl,hi,by rw[hg];rfl,λk hk=>by simp at hk⟩⟩,λ_ _ _ _ e=>(by cases e;exact G! _),λj hj=>by cases hj;show h.next.nat<=i.nat;omega⟩
   ·have ak:l.map (lq mod)≠ []:=by simpa using hz
    obtain⟨i,f,rfl,S,kk⟩:=t.open ak;rw[g!] at*;refine⟨.slice i 0 l.length (.kn l.length),?_,?_,.inr ⟨i,rfl⟩⟩
    ·show(match n! l.length l.length,n! l.length l.length,n! 0 l.length with
      |true,true,true=>fK (moved 4 0 0 l.length) λq=>fK (l.length - 0) λn=>R.ok (V.slice i q n (.kn (l.length - 0))) g
      |_,_,_=>.bad)=_
     rw[C! (G! _),C! (F! _)];simp only[dM];have hm:moved 4 0 0 l.length=0:=by unfold moved;split<;>rfl
     rw[hm,Nat.sub_zero]
    ·have au:∀d∈(l.map (lq mod)).map iL,d.length=4:=λd hd=>by obtain⟨x,_,rfl⟩:=r!.1 hd;rfl
     have:=Kn.rws (c:=iL) (sz:=4) (l:=l.map (lq mod)) (cp:=.kn l.length) kk (λ_=>rfl) (λ_ _ _ _ e=>by cases e;simp);rw[g!]at this;exact this.mono (aJ _) λj _ e=>by rw[e];omega
  obtain⟨w,e7,r7,f7⟩:=fin;simp(disch:=omega)only[vvB,seval,ZH,f8,ol,e7];exact aV.ret (r:=w) (qT0) ⟨C,r7,f7,Ch.trans (Z.ch) M λ_ _ q=>q⟩
 ·intro fr g q;exact q.elim
end
end Go.Proofs.Im
namespace Go.Vm
def Rws.own{α:Type}{P:Pos->Prop}{c:α->List V}{w:Nat}{h:Hp}{v:V}{l:List α}(r:Rws P (flat c) w h v l):Rws (λj=>bI v=some j) (flat c) w h v l:=by
 obtain⟨b,a,d,s,k,p⟩:=r;exact⟨b,a.mono λ_ _ e=>e,d,s,k,λj hj=>hj⟩
def Rws.eY{α:Type}{P:Pos->Prop}{E:El α}{w:Nat}{h:Hp}{v:V}{l:List α}(r:Rws P E w h v l){j:Pos}(hj:bI v=some j):P j/\j.nat<h.next.nat:=by
 obtain⟨b,a,c,s,k,p⟩:=r;exact⟨p j hj,s.eY hj⟩
end Go.Vm
namespace Go.Im
structure Acc.Logged (A:Acc):Prop where
 mods:∀e∈A.ents,e.mod<=A.clock
structure Ml.In (A:Acc) (m:Ml):Prop where
 sorted:gu ltI (m.mem.map (·.1)).length (m.mem.map (·.1))=m.mem.map (·.1)
 nodup:∀(k:Nat) x y,(m.mem.map (·.1))[k]?=some x->(m.mem.map (·.1))[k+1]?=some y->x≠y
 there:∀id∈m.mem.map (·.1),∃i,A.boxes.findIdx? (λb=>decide (b.id=id))=some i
 few:m.mem.length<=12
end Go.Im
namespace Go.Proofs.Im
section
variable{h h':Hp}{F I P:Pos->Prop}{ps pl ib:Pos}{A:Acc}{cb:Cap}{fb:Bool}{vm vl:V}
def dL.aJ6(a:dL h F ps A pl ib cb fb vm vl I){es:List En}{b:V}(k:Kn h' pl (O (N 130 true) [iV 10000,b,iV A.floor]))(o:dF 0 (λ_=>False) (flat iL) 85 4 h' b (A.ents++es))
  (c:Ch (λj=>j=pl\/bI vl=some j) h h') (m:∀j,bI b=some j->bI vl=some j\/h.next.nat<=j.nat) (l:es≠ []):dL h' (λj=>F j\/bI b=some j) ps {A with ents:=A.ents++es} pl ib cb fb vm b I where
 st:=a.st.ch c λe=>e.elim a.ne.1 λe=>(a.nl ps e).1 rfl
 lg:=k
 bx:=a.bx.ch c λe=>e.elim (λe=>a.ne.2.2 e.symm) λe=>(a.nl ib e).2.2 rfl
 cap:=a.cap
 ml:=by
  obtain⟨d,x,n,r⟩:=a.ml;exact⟨d,x.mono λ_ _ e=>dI e c λj _ q=>⟨q,λe=>e.elim (a.inn j q).2.2.1 (a.inn j q).2.2.2.2.2⟩,n,r.imp id λ⟨i,f,rest,e,k⟩=>⟨i,f,rest,e,k.ch c λg=>g.elim (a.nm i (by rw[e];rfl)).2.1 (a.nm i (by rw[e];rfl)).2.2.2⟩⟩
 en:=o
 ne:=a.ne
 nm:=λj e=>⟨(a.nm j e).1,(a.nm j e).2.1,(a.nm j e).2.2.1,λg=>(m j g).elim (a.nm j e).2.2.2 λq=>by have:=a.lt j (a.foot.2.2.2.1 j e);omega⟩
 nl:=λj e=>(m j e).elim (a.nl j) λq=>⟨λe=>by rw[e]at q;have:=a.st.2;omega,λe=>by rw[e]at q;have:=a.lg.2;omega,λe=>by rw[e]at q;have:=a.bx.2;omega⟩
 inn:=λj q=>⟨.inl (a.inn j q).1,(a.inn j q).2.1,(a.inn j q).2.2.1,(a.inn j q).2.2.2.1,(a.inn j q).2.2.2.2.1,λe=>(m j e).elim (a.inn j q).2.2.2.2.2 λp=>by have:=a.lt j (a.inn j q).1;omega⟩
 foot:=⟨.inl a.foot.1,.inl a.foot.2.1,.inl a.foot.2.2.1,λj e=>.inl (a.foot.2.2.2.1 j e),λj e=>.inr e⟩
 lt:=λj q=>q.elim (λq=>I! (a.lt j q) c.next) λe=>(o.eY e).2
 enil:=λe=>absurd (List.append_eq_nil_iff.1 e).2 l
def dL.add(a:dL h F ps A pl ib cb fb vm vl I){es:List En}{w:V}(r:Rws P (flat iL) 4 h w es)(g:∀j:Pos,j.nat<h.next.nat->P j->¬F j){c:Int}(m:∀e∈es,e.mod=c)(hl:∀e∈A.ents,e.mod<=c)(hn:A.ents.length+es.length<=10000)(d:es≠ []):
  ∃u h' b,NH [X pl 0,w] h=D u h'/\dL h' (λj=>F j\/bI b=some j) ps {A with ents:=A.ents++es} pl ib cb fb vm b I/\Ch F h h'/\(∀j,bI b=some j->F j\/h.next.nat<=j.nat):=by
 obtain⟨u,h',b,e,k,o,f,i⟩:=axb a.lg a.en r (λj e=>(a.nl j e).2.1) (λj hj l=>⟨λe=>g j hj l (by rw[e];exact a.foot.2.1),λe=>g j hj l (a.foot.2.2.2.2 j e)⟩) m hl hn;exact⟨u,h',b,e,a.aJ6 k o f i d,f.mono λj _ q=>q.elim (λe=>by rw[e];exact a.foot.2.1) (a.foot.2.2.2.2 j),λj e=>(i j e).imp (a.foot.2.2.2.2 j) id⟩
def dL.aH2(a:dL h F ps A pl ib cb fb vm vl I){k:Nat}{m:Ml}(d:A.mails[k]?=some m):∃im f rest b vk vs,vm=.slice im 0 A.mails.length (.un 8)/\Kn h im (O (N 40 f) (b.flatten++rest))/\All2 (jZ I h) A.mails b/\(∀c∈b,c.length=8)/\
  b[k]?=some (dS m vk vs)/\Rws I (flat dN) 1 h vk m.keys/\Rws I (flat gW) 2 h vs m.mem:=by
 obtain⟨b,x,i,r⟩:=a.ml;obtain⟨c,g,vk,vs,rfl,j,l⟩:=x.get d;rcases r with⟨h0,_⟩|⟨im,f,rest,e,kk⟩
 ·rw[h0]at d;simp at d
 ·exact⟨im,f,rest,b,vk,vs,e,kk,x,i,g,j,l⟩
def aEX{a:List (List V)}{rest c:List V}{k f:Nat}{y:V}(d:∀c∈a,c.length=8)(b:a[k]?=some c)(e:f<8):(a.flatten++rest).set (k*8+f) y=(a.set k (c.set f y)).flatten++rest:=by
 have g:=(c!.1 b).1;have:=ji d;rw[List.set_append_left _ _ (by omega),alC d b e]
def NR(l:List (List Nat)):Bool:=l.any λa=>decide (([36,115,101,101,110]:List Nat)=a)
def iO(m:Ml)(l:List (List Nat)):List Int:=if NR l=NR m.keys then [] else m.mem.map (·.1)
def aa4(A:Acc)(k:Nat)(m:Ml)(l:List (List Nat)):Acc:=
 {clock:=A.clock+1
  mails:=A.mails.set k {m with keys:=l,mod:=A.clock+1}
  boxes:=jX (A.clock+1) (iO m l) A.boxes
  ents:=A.ents++((iO m l).map (lq (A.clock+1))++ [(⟨A.clock+1,2,m.id,2⟩:En)])
  floor:=A.floor
  lastBox:=A.lastBox
  lastId:=A.lastId
  octets:=A.octets}
end
section
variable{h:Hp}{F I:Pos->Prop}{ps pl ib p:Pos}{A:Acc}{cb:Cap}{fb:Bool}{vm vl:V}
def dL.aSW(a:dL h F ps A pl ib cb fb vm vl I){k:Nat}{m m':Ml}(v:A.mails[k]?=some m){im:Pos}{f:Bool}{rest:List V}{b:List (List V)}{vk vs w:V}(e:vm=.slice im 0 A.mails.length (.un 8))(x:All2 (jZ I h) A.mails b)
  (z:∀c∈b,c.length=8) (L:b[k]?=some (dS m vk vs)) (y:Rws (λj=>bI w=some j) (flat dN) 1 h w m'.keys) (E:Rws I (flat gW) 2 h vs m'.mem) (u:∀j,bI w=some j->¬F j):
  dL (h.put im (some (O (N 40 f) ((b.set k (dS m' w vs)).flatten++rest)))) (λj=>F j\/bI w=some j) ps {A with mails:=A.mails.set k m'} pl ib cb fb vm vl (λj=>I j\/bI w=some j):=by
 have g:bI vm=some im:=by rw[e];rfl
 have o:=a.foot.2.2.2.1 im g;have c:Ch (λj=>j=im) h (h.put im (some (O (N 40 f) ((b.set k (dS m' w vs)).flatten++rest)))):=Ch.put _ _ rfl;have nm:=a.nm im g;have r:∀j,bI w=some j->j.nat<h.next.nat:=λj q=>(y.eY q).2;refine⟨?_,a.lg.ch c λe=>nm.2.1 e.symm,a.bx.ch c λe=>nm.2.2.1 e.symm,a.cap,?_,?_,a.ne,a.nm,a.nl,?_,?_,?_,a.enil⟩
 ·have e1:stC {A with mails:=A.mails.set k m'} ib cb vm pl=stC A ib cb vm pl:=rfl;rw[e1];exact a.st.ch c λe=>nm.1 e.symm
 ·have J:All2 (jZ (λj=>I j\/bI w=some j) (h.put im (some (O (N 40 f) ((b.set k (dS m' w vs)).flatten++rest))))) A.mails b:=
   x.mono λ_ _ e=>dI e c λj _ q=>⟨.inl q,λe=>(a.inn j q).2.2.2.2.1 (by rw[e];exact g)⟩
  refine⟨b.set k (dS m' w vs),J.set ⟨w,vs,rfl,?_,?_⟩,?_,.inr ⟨im,f,rest,?_,?_⟩⟩
  ·exact y.ch (aJ _) c λj _ q=>⟨.inr q,λe=>u j q (by rw[e];exact o)⟩
  ·exact E.ch (aJ _) c λj _ q=>⟨.inl q,λe=>(a.inn j q).2.2.2.2.1 (by rw[e];exact g)⟩
  ·intro d hd;rcases List.mem_or_eq_of_mem_set hd with q|q
   ·exact z d q
   ·rw[q];rfl
  ·rw[M!];exact e
  ·obtain⟨i,x0,l,C⟩:=a.ml;rcases C with⟨h0,t⟩|⟨M,f0,s,t,B⟩
   ·rw[h0]at v;simp at v
   ·rw[t]at e;injection e with e;subst e;exact B.put _
 ·obtain⟨i,x0,l,G⟩:=a.en;exact⟨i,x0.mono λ_ _ e=>e,l,G.ch c λj hj e=>by rw[e]at hj;exact nm.2.2.2 hj⟩
 ·intro j q;rcases q with q|q
  ·exact⟨.inl (a.inn j q).1,(a.inn j q).2⟩
  ·have n:=u j q;exact⟨.inr q,λe=>n (by rw[e];exact a.foot.1),λe=>n (by rw[e];exact a.foot.2.1),λe=>n (by rw[e];exact a.foot.2.2.1),λe=>n (a.foot.2.2.2.1 j e),λe=>n (a.foot.2.2.2.2 j e)⟩
 ·exact⟨.inl a.foot.1,.inl a.foot.2.1,.inl a.foot.2.2.1,λj e=>.inl (a.foot.2.2.2.1 j e),λj e=>.inl (a.foot.2.2.2.2 j e)⟩
 ·intro j q;exact q.elim (a.lt j) (r j)
def aQz{im:Pos}{w:Wr}{a:List (List V)}{rest c:List V}{k:Nat}(j:Kn h im (O w (a.flatten++rest)))(g:∀c∈a,c.length=8)(b:a[k]?=some c):bH 8 (X im (k*8)) h=D (.agg (V.ofList c)) h:=by
 have m:=(c!.1 b).1;have hl:=ji g;have e:=Gq g b;have d:=g c (d! b);show dV h im (λ_ cs=>match gy 8 (fB (k*8) cs) with|some l=>R.ok (V.agg (V.ofList l)) h|none=>.bad)=_;rw[dW (wr:=w) (all:=a.flatten++rest) (by rw[j.1];rfl),uO (cs:=c) (λf i=>?_) d];rw[x! (by omega),<-e,List.getElem?_take,if_pos i,List.getElem?_drop]
def aKg(a b c d:Int):eH 85 zEn 1 [(0,4,.agg (V.ofList (iL {mod:=a,kind:=b,id:=c,how:=d})))]=some (O (N 85 true) (iL {mod:=a,kind:=b,id:=c,how:=d}),λp=>.slice p 0 1 (.kn 1)):=(rfl)
end
section
variable{h h' g:Hp}{F I:Pos->Prop}{ps pl ib p:Pos}{A:Acc}{cb:Cap}{fb:Bool}{v vm vl:V}
def aGt{ents:List En}{r:Int}(lg:Kn h pl (O (N 130 true) [iV 10000,vl,iV r]))(o:dF 0 (λ_=>False) (flat iL) 85 4 h vl ents)(l:ents= []->vl=.aP)(hn:ents.length<=10000):
  ∃h' a,Xo [X pl 0] h=D (X h.next 0) h'/\Kn h' h.next (O (N 130 true) [iV 10000,a,iV r])/\dF (h.next.nat+1) (λ_=>False) (flat iL) 85 4 h' a ents/\(ents= []->a=.aP)/\Nw h h':=by
 have E:=lg.ldN (n:=3) rfl;obtain⟨f,k,t,J⟩:=mkW h (O (N 130 true) [iV 10000,vl,iV r]);have B:=mkT 3 [Y U 0,.aP,Y U 0] k;have L:f.next.nat=h.next.nat+1:=by rw[k,bJ]
 have z:=(lg.nw t).ld (q:=1) (x:=vl) rfl;obtain⟨a,b,e2,c,m,M⟩:∃a b,pz [vl] f=D a b/\dF (h.next.nat+1) (λ_=>False) (flat iL) 85 4 b a ents/\Nw f b/\(ents= []->a=.aP):=by
  by_cases s:ents= []
  ·rw[l s,s];exact⟨.aP,f,arJ f,dF.nil _ _ _ _ _ _,Nw.refl _,λ_=>rfl⟩
  ·obtain⟨w,b,e2,r2,m,c⟩:=at6 (o.nw (aJ _) t).aOR (by omega);rcases c with c|c
   ·exact absurd c s
   ·exact⟨w,b,e2,by rw[<-L];exact c,m,λe=>absurd e s⟩
 have y:=J.nw m;obtain⟨i,d⟩:∃i,i=b.put h.next (some (O (N 130 true) [iV 10000,a,iV r])):=⟨_,rfl⟩
 have C:aS 1 (X h.next 1) a b=D V.undef i:=by rw[d];exact y.st (q:=1) c.cell (show 1<3 by omega)
 have u:Ch (λj=>j=h.next) b i:=by rw[d];exact Ch.put _ _ rfl
 rw[aym];simp(disch:=omega)only[vvB,seval,as1,ajZ,ajY,ajX,ajW,ajV,fG,E,B,z,e2,C];refine⟨i,a,by simp only[bV,bQ,vvB,seval,bT]<;>rfl,by rw[d];exact y.put _,c.ch (aJ _) u (λj e G=>by have:=(c.eY e).1;rw[G]at this;omega) λ_ _ q=>q.elim,M,(t.trans m).then u λj hj e=>by rw[e]at hj;omega⟩
abbrev zSt:List V:= [H [],H [],Y U 0,Y U 0,Y U 0,Y U 0,Y U 0,Y U 0,Y U 0,Y U 0,.aP,.aP,.dn,Y U 0,Y U 0,Y U 0]
def asv(a:dL h F ps A pl ib cb fb vm vl I)(hA:A.Small):
  ∃h' qs F' aR w au ac a0 S I',IC [X ps 0] h=D (X qs 0) h'/\dL h' F' qs A aR w au ac a0 S I'/\Nw h h'/\∀j,F' j->h.next.nat<=j.nat:=by
 have ab:=a.nw (Nw.bump 1 h);have nb:(aK 1 h).next.nat=h.next.nat+1:=sZ _ _;obtain⟨vb,h5,e5,r5,c5,o5⟩:=Tz ab hA;have Z:=ab.nw c5;obtain⟨x,M,e7,o7,c7⟩:=abw Z hA;have J:=Z.nw c7;have he:=hA.ents;obtain⟨k,S,aw,al,ao,a2,t⟩:=aGt J.lg J.en J.enil (by omega);have y:=J.nw t;have n5:=c5.next;have n7:=c7.next;have bb:=t.next;have az:A.boxes≠ []:=λe=>by have:=hA.boxes;rw[e]at this;simp at this
 obtain⟨w,ac,rfl,ah,ad⟩:=o5.open az;have a4:=(ad.nw c7).nw t;have ap:=o7.nw dI t;have Lp:∀{g:Hp} {F:Pos->Prop},dL g F ps A pl ib cb fb vm vl I->aF (X ps 12) g=D (X pl 0) g:=λa=>a.st.ld (q:=12) rfl;have C:∀{g:Hp} {F:Pos->Prop},dL g F ps A pl ib cb fb vm vl I->aF (X ps 13) g=D (iV A.lastBox) g:=λa=>a.st.ld (q:=13) rfl;have E:∀{g:Hp} {F:Pos->Prop},dL g F ps A pl ib cb fb vm vl I->aF (X ps 14) g=D (iV A.lastId) g:=λa=>a.st.ld (q:=14) rfl;have G:∀{g:Hp} {F:Pos->Prop},dL g F ps A pl ib cb fb vm vl I->aF (X ps 15) g=D (iV A.octets) g:=λa=>a.st.ld (q:=15) rfl;have N9:∀{g:Hp} {F:Pos->Prop},dL g F ps A pl ib cb fb vm vl I->bH 9 (X ps 0) g=D (.agg (V.ofList [H [117],H [112],iV 1000,iV 100,iV 1048576,iV 1073741824,iV 1073741824,iV 10000,iV 200])) g:=λ{g F} a=>by
  show dV g ps (λ_ cs=>match gy 9 (fB 0 cs) with|some l=>R.ok (V.agg (V.ofList l)) g|none=>.bad)=_;rw[dW (wr:=N tSt true) (all:=stC A ib cb vm pl) (by rw[a.st.1];rfl)];rfl
 obtain⟨W,P⟩:∃W:List V,W= [H [117],H [112],iV 1000,iV 100,iV 1048576,iV 1073741824,iV 1073741824,iV 10000,iV 200,iV 0,.slice w 0 A.boxes.length (.un 6),x,X M.next 0,iV A.lastBox,iV A.lastId,iV A.octets]:=⟨_,rfl⟩
 obtain⟨m,r⟩:∃m,m=k.put h.next (some (O (N tSt true) W)):=⟨_,rfl⟩
 have L:Ch (λj=>j=h.next) k m:=by rw[r];exact Ch.put _ _ rfl
 have an:m.next=k.next:=by rw[r];rfl
 have am:Kn m h.next (O (N tSt true) W):=by rw[r];exact⟨kJ _ _ _,by rw[jQ];omega⟩
 have ar:=y.ch L λj f e=>by have:=a.lt j f;rw[e]at this;omega
 have ax:=Xy ar.st (q:=9) (n:=A.clock) rfl;obtain⟨u,ag⟩:=CG (n:=A.clock) am (q:=9) (by rw[P];show 9<16;omega);obtain⟨d,s⟩:∃d,d=m.put h.next (some (O (N tSt true) (stC A w (.un 6) x M.next))):=⟨_,rfl⟩
 have ay:m.put h.next (some (O (N tSt true) (W.set 9 (iV A.clock))))=d:=by rw[s,P];rfl
 rw[ay]at ag;have aa:Ch (λj=>j=h.next) m d:=by rw[s];exact Ch.put _ _ rfl
 obtain⟨a9,xm,ba,sm⟩:=ap;have hB:bW zSt [(0,9,.agg (V.ofList [H [117],H [112],iV 1000,iV 100,iV 1048576,iV 1073741824,iV 1073741824,iV 10000,iV 200])),(10,1,.slice w 0 A.boxes.length (.un 6)),(11,1,x),(12,1,X M.next 0),(13,1,iV A.lastBox),(14,1,iV A.lastId),(15,1,iV A.octets)] k=D (.agg (V.ofList W)) k:=by
  rw[P];rcases sm.is with⟨_,e⟩|⟨im,e,_⟩<;>rw[e]<;>rfl
 have hX:alN tSt (.agg (V.ofList W))=some (O (N tSt true) W,λp=>X p 0):=by rw[P];rfl
 refine⟨d,h.next,λj=>h.next.nat<=j.nat/\j.nat<d.next.nat,M.next,w,.un 6,ac,x,S,λj=>h5.next.nat<=j.nat/\j.nat<M.next.nat/\bI x≠some j,?_,?_,?_,λj q=>q.1⟩
 ·rw[ayk];simp(disch:=omega)only[vvB,seval,asY,ajZ,ajR,ajQ,ajP,ajV,fG,e5,e7,Lp J,afU (v:=X pl 0) rfl (Lp Z) (Lp ab),aw,N9 y,aDL (v:=.agg (V.ofList [H [117],H [112],iV 1000,iV 100,iV 1048576,iV 1073741824,iV 1073741824,iV 10000,iV 200])) rfl (N9 J) (N9 Z) (N9 ab),C y,aDL (v:=iV A.lastBox) rfl (C J) (C Z) (C ab),E y,aDL (v:=iV A.lastId) rfl (E J) (E Z) (E ab),G y,aDL (v:=iV A.octets) rfl (G J) (G Z) (G ab),hB,hX,<-r,ax,ag];simp only[bV,bQ,vvB,seval,bT]<;>rfl
 ·have aM:d.next=k.next:=by rw[s,jQ,an]
  have a8:d.next.nat=k.next.nat:=by rw[aM]
  have a6:m.next.nat=k.next.nat:=by rw[an]
  have B:Ch (λj=>j=h.next) M d:=(t.ch.trans L λ_ _ q=>q).trans aa λ_ _ q=>q;have z:Ch (λj=>j=h.next) k d:=L.trans aa λ_ _ q=>q;have ae:Ch (λj=>j=h.next) h5 d:=(Nw.ch c7).trans B λ_ _ q=>q;obtain⟨af,a1,ak,aq⟩:=o7;have Q:∀j,bI S=some j->M.next.nat+1<=j.nat/\j.nat<k.next.nat:=λj e=>ao.eY e;have aj:∀j,bI x=some j->h5.next.nat<=j.nat/\j.nat<M.next.nat:=λj e=>aq.eY e;have ai:=ad.2;have a3:=al.2;refine⟨?_,?_,?_,?_,?_,?_,?_,?_,?_,?_,?_,?_,?_⟩
  ·rw[s];exact am.put _
  ·exact al.ch z λe=>by have:=congrArg Pos.nat e;omega
  ·exact ad.ch ae λe=>by rw[e]at ah;omega
  ·intro i o n c e;cases e;rfl
  ·refine⟨af,a1.mono λ_ _ e=>dI e B λj hj q=>⟨⟨q.1,hj,q.2⟩,λe=>by rw[e]at q;omega⟩,ak,?_⟩;rcases aq.is with⟨h0,e⟩|⟨i,e,aD,aE,f,hg⟩
   ·exact .inl ⟨y!.1 h0,e⟩
   ·refine .inr ⟨i,f,[],e,?_⟩;rw[List.append_nil];exact(show Kn M i _ from⟨hg,aE⟩).ch B λe=>by rw[e]at aD;omega
  ·obtain⟨av,xl,aL,sl⟩:=ao;exact⟨av,xl.mono λ_ _ e=>e,aL,(sl.ch z λj e b=>by have:=(sl.eY e).1;rw[b]at this;omega).base λ_ _=>F! _⟩
  ·exact⟨λe=>by have:=congrArg Pos.nat e;omega,λe=>by rw[<-e]at ah;omega,λe=>by rw[<-e]at ai;omega⟩
  ·intro j e;have:=aj j e;exact⟨λb=>by rw[b]at this;omega,λb=>by rw[b]at this;omega,λb=>by rw[b]at this;omega,λb=>by have:=Q j b;omega⟩
  ·intro j e;have:=Q j e;exact⟨λb=>by rw[b]at this;omega,λb=>by rw[b]at this;omega,λb=>by rw[b]at this;omega⟩
  ·rintro j ⟨q1,q2,q3⟩;exact⟨⟨by omega,by omega⟩,λb=>by rw[b]at q1;omega,λb=>by rw[b]at q2;omega,λb=>by rw[b]at q1;omega,q3,λb=>by have:=Q j b;omega⟩
  ·exact⟨⟨G! _,by omega⟩,⟨by omega,by omega⟩,⟨by omega,by omega⟩,λj e=>by have:=aj j e;exact⟨by omega,by omega⟩,λj e=>by have:=Q j e;exact⟨by omega,by omega⟩⟩
  ·exact λj q=>q.2
  ·exact a2
 ·exact((((Nw.bump 1 h).trans c5).trans c7).trans t).then (L.trans aa λ_ _ q=>q) λj hj e=>by rw[e]at hj;omega
end
section
variable{h h' g:Hp}{F p I o:Pos->Prop}{ps qs pl ib pl2 l:Pos}{A B:Acc}{cb i:Cap}{fb m:Bool}{vm vl d f:V}
def aJs(a:dL h F ps A pl ib cb fb vm vl I)(b:dL h p qs B pl2 l i m d f o)(hB:B.Small):
  ∃u h' F' ag af ac ad aj ah I',V6 [X ps 0,X qs 0] h=D u h'/\dL h' F' ps B ag af ac ad aj ah I'/\Ch (λj=>j=ps) h h'/\∀j,F' j->j=ps\/h.next.nat<=j.nat:=by
 obtain⟨M,rs,F3,t,s,z,ae,v,ai,I3,e1,c,n1,G⟩:=asv b hB;have a1:=a.nw n1;have ak:=a.st.2;have r:∀j,F3 j->j≠ps:=λj q e=>by have:=G j q;rw[e]at this;omega
 have vc:=c.ml.rws.cell;have L:∀{g:Hp} (J:Ch (λj=>j=ps) M g),Kn g rs (O (N tSt true) (stC B s z v t)):=λJ=>c.st.ch J (r _ c.foot.1);have step:∀{g:Hp} {cs:List V} {q:Nat} {y:V},Kn g ps (O (N tSt true) cs)->y.cells= [y]/\ig y=true->q<cs.length->Ch (λj=>j=ps) M g->
   ∃g',aS 1 (X ps q) y g=D V.undef g'/\Kn g' ps (O (N tSt true) (cs.set q y))/\Ch (λj=>j=ps) M g':=λk hy hq J=>⟨_,k.st hy hq,k.put _,J.trans (Ch.put (S:=λj=>j=ps) _ _ rfl) λ_ _ q=>q⟩
 obtain⟨g1,S1,k1,d1⟩:=step (q:=10) (y:=.slice s 0 B.boxes.length z) a1.st ⟨rfl,rfl⟩ (show 10<16 by omega) (Ch.refl _ _);obtain⟨g2,S2,k2,d2⟩:=step (q:=11) (y:=v) k1 vc (show 11<16 by omega) d1;obtain⟨g3,S3,k3,d3⟩:=step (q:=12) (y:=X t 0) k2 ⟨rfl,rfl⟩ (show 12<16 by omega) d2;obtain⟨g4,S4,k4,d4⟩:=step (q:=13) (y:=iV B.lastBox) k3 ⟨rfl,rfl⟩ (show 13<16 by omega) d3;obtain⟨g5,S5,k5,d5⟩:=step (q:=14) (y:=iV B.lastId) k4 ⟨rfl,rfl⟩ (show 14<16 by omega) d4;obtain⟨g6,S6,k6,d6⟩:=step (q:=15) (y:=iV B.octets) k5 ⟨rfl,rfl⟩ (show 15<16 by omega) d5;have P:=(L (Ch.refl _ _)).ld (q:=10) rfl;have Q:=(L (Ch.refl _ _)).ld (q:=11) (x:=v) rfl;have W:=(L (Ch.refl _ _)).ld (q:=12) rfl;have Z:=(L (Ch.refl _ _)).ld (q:=13) (x:=iV B.lastBox) rfl;have aa:=(L (Ch.refl _ _)).ld (q:=14) (x:=iV B.lastId) rfl;have ab:=(L (Ch.refl _ _)).ld (q:=15) (x:=iV B.octets) rfl;have L9:=Xy (L d6) (q:=9) (n:=B.clock) rfl;obtain⟨u,S7⟩:=CG (n:=B.clock) k6 (q:=9) (show 9<16 by omega);obtain⟨E,C⟩:∃E,E=g6.put ps (some (O (N tSt true) (stC B s z v t))):=⟨_,rfl⟩
 have e7:g6.put ps (some (O (N tSt true) ((((((((stC A ib cb vm pl).set 10 (.slice s 0 B.boxes.length z)).set 11 v).set 12 (X t 0)).set 13 (iV B.lastBox)).set 14 (iV B.lastId)).set 15 (iV B.octets)).set 9 (iV B.clock))))=E:=by rw[C];rfl
 rw[e7]at S7;have d7:Ch (λj=>j=ps) M E:=by rw[C];exact d6.trans (Ch.put (S:=λj=>j=ps) _ _ rfl) λ_ _ q=>q
 have k7:Kn E ps (O (N tSt true) (stC B s z v t)):=by rw[C];exact k6.put _
 have w:=c.ch d7 r;refine⟨V.undef,E,λj=>j=ps\/F3 j,t,s,z,ae,v,ai,I3,?_,?_,?_,λj q=>q.imp id (G j)⟩
 ·rw[azK];simp(disch:=omega)only[vvB,seval,axN,aoy,aox,aow,e1,P,Q,W,Z,aa,ab,S1,S2,S3,S4,S5,S6,L9,S7];rfl
 ·refine⟨k7,w.lg,w.bx,w.cap,w.ml,w.en,⟨λe=>r t c.foot.2.1 e.symm,λe=>r s c.foot.2.2.1 e.symm,w.ne.2.2⟩,λj e=>⟨r j (c.foot.2.2.2.1 j e),(w.nm j e).2⟩,λj e=>⟨r j (c.foot.2.2.2.2 j e),(w.nl j e).2⟩,λj q=>⟨.inr (w.inn j q).1,r j (w.inn j q).1,(w.inn j q).2.2⟩,⟨.inl rfl,.inr c.foot.2.1,.inr c.foot.2.2.1,λj e=>.inr (c.foot.2.2.2.1 j e),λj e=>.inr (c.foot.2.2.2.2 j e)⟩,λj q=>q.elim (λe=>by rw[e];exact k7.2) (w.lt j),w.enil⟩
 ·exact(n1.ch).trans d7 λ_ _ q=>q
end
end Go.Proofs.Im
namespace Go.Im
def _root_.Go.Vm.All2.eraseIdx{α:Type}{R:α->List V->Prop}{l:List α}{cs:List (List V)}(a:All2 R l cs)(n:Nat):All2 R (l.eraseIdx n) (cs.eraseIdx n):=by
 rw[v!,v!];exact(a.take n).append (a.drop (n+1))
def anD(A:Acc)(k:Nat)(m:Ml):Int:=if(A.mails.eraseIdx k).any (λx=>decide (x.thread=m.thread)) then 2 else 3
def alG(A:Acc)(k:Nat)(m:Ml):Acc:=
 {clock:=A.clock+1
  mails:=A.mails.eraseIdx k
  boxes:=jX (A.clock+1) (m.mem.map (·.1)) A.boxes
  ents:=A.ents++((m.mem.map (·.1)).map (lq (A.clock+1))++ [(⟨A.clock+1,2,m.id,3⟩:En),⟨A.clock+1,3,m.thread,anD A k m⟩])
  floor:=A.floor
  lastBox:=A.lastBox
  lastId:=A.lastId
  octets:=A.octets - (m.text.length:Int)}
end Go.Im
namespace Go.Proofs.Im
section
variable{p:Pos}
abbrev aTx:List V:= [Y U 0,Y U 0,Y U 0,Y U 0,Y U 0,Y U 0,Y U 0,Y U 0]
def aTd(a b c d a' b' e f:Int):eH 85 aTx 2 [(0,4,.agg (V.ofList (iL {mod:=a,kind:=b,id:=c,how:=d}))),(4,4,.agg (V.ofList (iL {mod:=a',kind:=b',id:=e,how:=f})))]=
  some (O (N 85 true) (([({mod:=a,kind:=b,id:=c,how:=d}:En),{mod:=a',kind:=b',id:=e,how:=f}].map iL).flatten),λp=>.slice p 0 2 (.kn 2)):=(rfl)
end
end Go.Proofs.Im
namespace Go.Im
def Wn(l:List Ml)(box:Int):List (Int×Ml):=l.flatMap λm=>(m.mem.filter λx=>decide (x.1=box)).map λx=>(x.2,m)
def thC(x:Int×Ml)(vk vs:V):List V:=iV x.1::dS x.2 vk vs
def Ad:El (Int×Ml):=λP h x cs=>∃vk vs,cs=thC x vk vs/\Rws P (flat dN) 1 h vk x.2.keys/\Rws P (flat gW) 2 h vs x.2.mem
def dQ:Ad.Stable:=λ⟨vk,vm,e,a,b⟩ c d=>⟨vk,vm,e,a.ch (aJ _) c d,b.ch (aJ _) c d⟩
def aQ1{l:List Ml}{box:Int}(b:∀m∈l,m.mem.length<=1000):(Wn l box).length<=l.length*1000:=by
 induction l with
 |nil=>simp[Wn]
 |cons a l c=>
  have:=c λm q=>b m (by simp[q]);have d:=b a (by simp);have e:(a.mem.filter λx=>decide (x.1=box)).length<=a.mem.length:=A! _ _;simp only[Wn,List.flatMap_cons,q!,g!,List.length_cons] at*;omega
def aA8(l:List Ml)(m:Ml)(box:Int):Wn (l++ [m]) box=Wn l box++(m.mem.filter λx=>decide (x.1=box)).map λx=>(x.2,m):=by simp[Wn]
end Go.Im
namespace Go.Vm
def dF.wide{α:Type}{b b':Nat}{P P':Pos->Prop}{E:El α}{el:TypeId}{w:Nat}{h:Hp}{v:V}{l:List α}(r:dF b P E el w h v l)(d:E.Stable)(hb:b'<=b)(e:∀j:Pos,j.nat<h.next.nat->P j->P' j):dF b' P' E el w h v l:=by
 obtain⟨c,a,f,s⟩:=r.mono d e;exact⟨c,a,f,s.base λj hj=>Nat.le_trans hb (s.eY hj).1⟩
end Go.Vm
namespace Go.Proofs.Im
section
variable{h h' g:Hp}{F I:Pos->Prop}{ps pl ib:Pos}{A:Acc}{cb:Cap}{fb:Bool}{vm vl:V}
abbrev zTh:List V:= [Y U 0,Y U 0,Y U 0,H [],Y U 0,.aP,.aP,Y U 0,Y U 0]
def aEw(a:Int)(h:Hp):nK [iV a] h=D (K false) h:=by
 rw[Wj];have b:(a=a)=True:=eq_true rfl;simp only[vvB,seval,RI,ajr,Kz,bV,bQ,bT]
def aOF{a b:Int}(c:b<a)(h:Hp):zZ [iV a,iV b] h=D (iV 1) h:=by
 rw[ahR];have d:(a<b)=False:=eq_false (by omega);have e:(a>b)=True:=eq_true c;simp only[vvB,seval,Xh,axJ,SN,SL,SK,SI,SH,PI,PG,aEw,d,e,bV,bQ,bT]
def awL{x y:Int×Ml}{e i f s2:V}(d:x.1<y.1):∃h',qZ [.agg (V.ofList (thC y f s2)),.agg (V.ofList (thC x e i))] g=D (iV 1) h'/\Nw g h':=by
 obtain⟨c,a,l,-⟩:=mkW g (O (N 250 true) (thC y f s2));obtain⟨k,b,j,-⟩:=mkW c (O (N 250 true) (thC x e i));have e1:=(show Kn c g.next (O (N 250 true) (thC y f s2)) by rw[a];exact Kn.new _ _).nw j|>.ld (q:=0) (x:=iV y.1) rfl;have e2:=(show Kn k c.next (O (N 250 true) (thC x e i)) by rw[b];exact Kn.new _ _).ld (q:=0) (x:=iV x.1) rfl;refine⟨k,?_,l.trans j⟩;rw[apD];simp only[vvB,seval,ahk,Zw,Zu,V.cZ,<-a,<-b,e1,e2,aOF d];simp only[bV,bQ,vvB,seval,bT]
def bTh(x:Int×Ml)(vk vs:V)(h:Hp):bW zTh [(0,1,iV x.1),(1,8,.agg (V.ofList (dS x.2 vk vs)))] h=D (.agg (V.ofList (thC x vk vs))) h:=(rfl)
def aTP(x:Int×Ml)(vk vs:V)(h:Hp):bU 250 zTh 1 [(0,9,.agg (V.ofList (thC x vk vs)))] h=D (.slice h.next 0 1 (.kn 1)) (h.new (O (N 250 true) (thC x vk vs))):=(rfl)
def aqp(e:FuncId->Option Fun)(k:∀x y g,dD e (.func (.func 284) .nil .nil) [x,y] g=qZ [x,y] g){P:Pos->Prop}{l:List (Int×Ml)}(m:l.Pairwise λx y=>x.1<y.1)(h:Hp):jW e P Ad h (.func (.func 284) .nil .nil) l:=by
 rintro g i j x y p q c a n o ⟨r,t,e1,-,-⟩ ⟨s,s2,e2,-,-⟩ _ _;obtain⟨hi,b⟩:=c!.1 n;obtain⟨hj,f⟩:=c!.1 o;have d:x.1<y.1:=by rw[<-b,<-f];exact List.pairwise_iff_getElem.1 m i j hi hj a
 subst e1 e2;rw[k];exact awL d
def XH(a:dL h F ps A pl ib cb fb vm vl I)(hA:A.Small){box:Int}(hs:(Wn A.mails box).Pairwise λx y=>x.1<y.1)(ad:(Wn A.mails box).length<50):
  ∃r h',ve [X ps 0,iV box] h=D r h'/\gK h.next.nat Ad 250 9 h' r (Wn A.mails box)/\Nw h h':=by
 obtain⟨r,p,e1,o1,c1⟩:=abw a hA;have R:=(o1.rws dI).mono (P':=λj=>h.next.nat<=j.nat/\j.nat<p.next.nat) dI λj hj q=>⟨q,hj⟩
 have hn:=hA.mails;have n1:=c1.next;rw[aro];show aV j! _ (λr h'=>gK h.next.nat Ad 250 9 h' r (Wn A.mails box)/\Nw h h') _;simp only[vvB,seval,akR,mJ,acY,acX,aeM,e1,R.len];refine Oc.then (dP (σ:=V) (n:=A.mails.length) (pi:=13) (pn:=12) (pc:=14) [5,11,1] (λv=> [v,r,iV box]) (λk v g=>Nw p g/\dF p.next.nat (λj=>h.next.nat<=j.nat/\j.nat<p.next.nat) Ad 250 9 g v (Wn (A.mails.take k) box))
  (A:=λfr g=>∃v,fr.get (e! 5)=some v/\Nw p g/\dF p.next.nat (λj=>h.next.nat<=j.nat/\j.nat<p.next.nat) Ad 250 9 g v (Wn A.mails box)) (B:=λfr g=>False) (s:=.aP)
  (λfr h _ k e1 e2=>by simp only[vvB,seval,Po,e1,e2]) (λfr h k _ e1=>by simp(disch:=omega)only[vvB,seval,Pg,e1]) (by decide) (by rw[dR];omega) (qK0) (qK0) (by simp only[Fa,vvB,seval,and_self]) ⟨Nw.refl _,dF.nil _ _ _ _ _ _⟩ ?_ ?_) ?_ ?_
 ·intro k v fr g hk d t G P;obtain⟨w,b,f1,-⟩:=G;obtain⟨c,o⟩:=P;obtain⟨m,hm⟩:∃m,A.mails[k]?=some m:=⟨_,a! hk⟩
  obtain⟨i,q,cs,e1,⟨vk,vs,rfl,rk,rs⟩,-,-,-,-,e3⟩:=(R.nw dI c).elt hm;have C:=e3 g rfl;have ag:=hA.each m (d! hm);obtain⟨g2,ae,c2,k2⟩:=mkW g (O (N 40 true) (dS m vk vs));have S2:=mkT 8 zMl ae;have L5:=k2.ld (q:=5) (x:=vs) rfl;have ac:=rs.nw (aJ _) c2;have ai:=rk.nw (aJ _) c2;have af:(Wn (A.mails.take k) box).length<=1000*1000:=by
   have:=aQ1 (l:=A.mails.take k) (box:=box) λm q=>(hA.each m (D! q)).2;rw[K!]at this;omega
  have am:=c.next;have an:=c2.next;simp only[vvB,seval,acV,acU,aeL,w,b,d,e1,C,S2,L5,ac.len];refine Oc.out (Q:=λo=>Rd _ _ _ _ _ _ _ _ _ _ (Dz 1 o)) (dP (σ:=V) (n:=m.mem.length) (pi:=20) (pn:=19) (pc:=21) [5,11,1,7,18,13,12] (λv=> [v,r,iV box,X g.next 0,vs,iV k,iV A.mails.length]) (λj v g'=>Nw p g'/\(Kn g' g.next (O (N 40 true) (dS m vk vs))/\Rws (λj=>h.next.nat<=j.nat/\j.nat<p.next.nat) (flat dN) 1 g' vk m.keys/\Rws (λj=>h.next.nat<=j.nat/\j.nat<p.next.nat) (flat gW) 2 g' vs m.mem/\bI v≠some g.next)/\dF p.next.nat (λj=>h.next.nat<=j.nat/\j.nat<p.next.nat) Ad 250 9 g' v (Wn (A.mails.take k) box++((m.mem.take j).filter λx=>decide (x.1=box)).map λx=>(x.2,m)))
   (A:=λfr g'=>∃v,Fa fr [5,11,1,13,12] [v,r,iV box,iV k,iV A.mails.length]/\Nw p g'/\dF p.next.nat (λj=>h.next.nat<=j.nat/\j.nat<p.next.nat) Ad 250 9 g' v (Wn (A.mails.take (k+1)) box)) (B:=λfr g=>False) (s:=v)
   (λfr h _ k e1 e2=>by simp only[vvB,seval,acT,e1,e2]) (λfr h k _ e1=>by simp(disch:=omega)only[vvB,seval,ZA,e1]) (by decide) (by rw[dR];omega) (qK0) (qK0) (by simp only[Fa,vvB,seval,f1,d,t,w,b,and_self]) ⟨c.trans c2,⟨k2,ai,ac,λe=>by have:=(o.eY e).2;omega⟩,by simpa using o.nw dQ c2⟩ ?_ ?_) ?_ ?_
  ·intro j v fr g' hj E aa G P;obtain⟨w,b,f1,f7,z,d,t,-⟩:=G;obtain⟨ca,⟨kq,Z,J,ab⟩,o⟩:=P;obtain⟨x,hx⟩:∃x,m.mem[j]?=some x:=⟨_,a! hj⟩
   obtain⟨i,q,cs,e1,e2,-,-,-,-,e3⟩:=J.elt hx;obtain rfl:cs=gW x:=e2;have C:=e3 g' rfl;obtain⟨L,W⟩:∃L,L=g'.new (O (N 106 true) (gW x)):=⟨_,rfl⟩
   have S3:=mkT 2 [Y U 0,Y U 0] W;have u:Nw g' L:=by rw[W];exact Nw.new _ _
   have k3:Kn L g'.next (O (N 106 true) (gW x)):=by rw[W];exact Kn.new _ _
   have L0:=k3.ld (q:=0) (x:=iV x.1) rfl;have L1:=k3.ld (q:=1) (x:=iV x.2) rfl;have LM:=(kq.nw u).ldN (n:=8) rfl;have ht:(m.mem.take (j+1))=m.mem.take j++ [x]:=take_snoc hx;by_cases hb:x.1=box
   ·have S:(x.1=box)=True:=eq_true hb;have ak:=ca.next;have al:=u.next;have ah:((Wn (A.mails.take k) box++((m.mem.take j).filter λx=>decide (x.1=box)).map λx=>(x.2,m)).length+1)*112<=140737488355328:=by
     have p:((m.mem.take j).filter λx=>decide (x.1=box)).length<=(m.mem.take j).length:=A! _ _;rw[K!]at p;rw[q!,g!];have:=ag.2;omega
    obtain⟨v',g4,e5,o5,M,n5,ev⟩:=(o.nw dQ u).app1 (bt:=112) (x:=(x.2,m)) (cs:=thC (x.2,m) vk vs) (P':=λj=>h.next.nat<=j.nat/\j.nat<p.next.nat) dQ (by omega) rfl (λ_ _ q=>q) ⟨vk,vs,rfl,Z.nw (aJ _) u,J.nw (aJ _) u⟩ (λj _ q e=>by have:=((o.nw dQ u).eY e).1;omega) ah;have e6:bU 250 zTh 1 [(0,9,.agg (V.ofList (thC (x.2,m) vk vs)))] L=_:=aTP (x.2,m) vk vs L;have e7:bW zTh [(0,1,iV x.2),(1,8,.agg (V.ofList (dS m vk vs)))] L=_:=bTh (x.2,m) vk vs L;simp only[vvB,seval,QI,QH,acS,z,E,f1,w,f7,e1,C,S3,L0,L1,LM,S,e7,e6,e5];refine⟨qK2 E,qK2 aa,v',by simp only[Fa,vvB,seval,b,f1,f7,z,d,t,and_self],?_,?_,?_⟩
    ·exact(ca.trans u).own M λj e=>(o.eY e).1
    ·have hg:=kq.2;refine⟨(kq.nw u).ch M ab,(Z.nw (aJ _) u).ch (aJ _) M λj _ q=>⟨q,λe=>?_⟩,(J.nw (aJ _) u).ch (aJ _) M λj _ q=>⟨q,λe=>?_⟩,λe=>?_⟩
     ·have:=(o.eY e).1;omega
     ·have:=(o.eY e).1;omega
     ·rw[ev]at e;injection e with e;have:=congrArg Pos.nat e;rw[Pos.fD]at this;omega
    ·rw[ht,H!,h!,<-J!];simpa[hb]using o5
   ·have S:(x.1=box)=False:=eq_false hb;simp only[vvB,seval,QI,QH,z,E,f1,w,f7,e1,C,S3,L0,S];refine⟨qK2 E,qK2 aa,v,by simp only[Fa,vvB,seval,w,b,f1,f7,z,d,t,and_self],ca.trans u,⟨kq.nw u,Z.nw (aJ _) u,J.nw (aJ _) u,ab⟩,?_⟩;rw[ht,H!,h!];simpa[hb]using o.nw dQ u
  ·intro v fr g' G P;obtain⟨w,b,f1,f7,z,d,t,-⟩:=G;obtain⟨ca,aj,o⟩:=P;refine⟨v,by simp only[Fa,vvB,seval,w,b,f1,d,t,and_self],ca,?_⟩;rw[b!]at o;rw[take_snoc hm,aA8];exact o
  ·rintro fr g' ⟨v,G,ca,o⟩;obtain⟨w,b,f1,d,t,-⟩:=G;exact⟨d,t,v,by simp only[Fa,vvB,seval,w,b,f1,and_self],ca,o⟩
  ·intro fr g q;exact q.elim
 ·intro v fr g G P;obtain⟨w,b,-⟩:=G;obtain⟨c,o⟩:=P;rw[b!]at o;exact⟨v,w,c,o⟩
 ·rintro fr g ⟨v,w,c,o⟩;obtain⟨g5,e5,M⟩:=alR (f:=.func (.func 284) .nil .nil) (o.rows (P':=λj=>h.next.nat<=j.nat) dQ (λ_ _ q=>q.1) λ_ q _=>by omega) dQ ad (aqp _ (λ_ _ _=>rfl) hs _) (aqp _ (λ_ _ _=>rfl) hs _) (aqp _ (λ_ _ _=>rfl) hs _);simp only[vvB,seval,Zy,Ls,w,e5];exact aV.ret (r:=v) (qT0) ⟨(o.nw dQ M).wide dQ (by omega) λj hj q=>⟨q.1,λe=>by have:=(o.eY e).1;omega⟩,(c1.trans c).trans M⟩
 ·intro fr g q;exact q.elim
end
end Go.Proofs.Im
namespace Go.Im
structure Mg where
 uid:Int
 id:Int
 told:Int
 at_:Pos
def mgC(x:Mg):List V:= [iV x.uid,iV x.id,X x.at_ 0]
structure VwG (tV tM tA:TypeId) (b:Nat) (h:Hp) (pv:Pos) (box had:Int) (l:List Mg) (vv:V):Prop where
 vw:Kn h pv (O (N tV true) [iV box,vv,iV had])
 row:dF b (λ_=>False) (flat mgC) tM 3 h vv l
 told:∀x∈l,Kn h x.at_ (O (N tA true) [iV x.told])
 nd:(l.map (·.at_)).Nodup
 sep:∀x∈l,x.at_≠pv/\bI vv≠some x.at_
 nv:bI vv≠some pv
 lo:b<=pv.nat/\∀x∈l,b<=x.at_.nat
end Go.Im
namespace Go.Proofs.Im
section
variable{h h' g:Hp}{p pv:Pos}{vv:V}{b:Nat}{l:List Mg}{box had:Int}
abbrev abt(b:Nat)(h:Hp)(pv:Pos)(box had:Int)(l:List Mg)(vv:V):Prop:=VwG 246 248 75 b h pv box had l vv
abbrev zVm:List V:= [Y U 0,Y U 0,.dn]
def aTY(x:Mg):eH 248 zVm 1 [(0,3,.agg (V.ofList (mgC x)))]=some (O (N 248 true) (mgC x),λp=>.slice p 0 1 (.kn 1)):=(rfl)
def bAt(h:Hp):bW [Y U 0] [] h=D (.agg (V.ofList [Y U 0])) h:=(rfl)
def abt.nw(a:abt b h pv box had l vv)(c:Nw h g):abt b g pv box had l vv where
 vw:=a.vw.nw c
 row:=a.row.nw (aJ _) c
 told:=λx q=>(a.told x q).nw c
 nd:=a.nd
 sep:=a.sep
 nv:=a.nv
 lo:=a.lo
def aIY{P:Pos->Prop}(a:abt b h pv box had l vv)(hb:b<=h.next.nat)(hl:l.length<=1000){x:Int×Ml}{vk vs:V}:
  ∃u h' Q q,acv [X pv 0,.agg (V.ofList (thC x vk vs))] h=D u h'/\abt b h' pv box (max had x.1) (l++ [{uid:=x.1,id:=x.2.id,told:=x.2.mod,at_:=q}]) Q/\Ch (λj=>j=pv\/bI vv=some j) h h'/\(∀j,bI Q=some j->h.next.nat<=j.nat):=by
 obtain⟨d,I,c1,M⟩:=mkW h (O (N 250 true) (thC x vk vs));obtain⟨Z,J,E,k2⟩:=mkW d (O (N 75 true) [Y U 0]);obtain⟨y,hy⟩:∃y:Mg,y={uid:=x.1,id:=x.2.id,told:=x.2.mod,at_:=d.next}:=⟨_,rfl⟩
 obtain⟨h3,ad,B,k3⟩:=mkW Z (O (N 248 true) (mgC y));have S3:=mkT 3 zVm ad;obtain⟨o,t⟩:∃o,o=h3.put d.next (some (O (N 75 true) [iV x.2.mod])):=⟨_,rfl⟩
 have W:Ch (λj=>j=d.next) h3 o:=by rw[t];exact Ch.put _ _ rfl
 obtain⟨u,e4⟩:=CG (n:=x.2.mod) ((k2.nw B)) (q:=0) (by decide);have e4:kE [X d.next 0,iV x.2.mod] h3=D u o:=by rw[t];exact e4
 have k4:Kn o d.next (O (N 75 true) [iV x.2.mod]):=by rw[t];exact(k2.nw B).put _
 have B3:bW zVm [(0,1,iV x.1),(1,1,iV x.2.id),(2,1,X d.next 0)] Z=D (.agg (V.ofList (mgC y))) Z:=by subst hy;rfl
 have ai:=c1.next;have aj:=E.next;have ak:=B.next;have al:=W.next;have b1:d.next.nat=h.next.nat+1:=by rw[I,bJ]
 have b2:Z.next.nat=d.next.nat+1:=by rw[J,bJ]
 have ac:Nw h h3:=(c1.trans E).trans B;have ae:=(M.nw (E.trans B)).ch W λe=>by have:=congrArg Pos.nat e;omega
 have ah:=k3.ch W λe=>by have:=congrArg Pos.nat e;omega
 have C:Nw h o:=ac.then W λj hj e=>by rw[e]at hj;omega
 have S:=a.nw C;have L0:=(M.nw E).ld (q:=0) (x:=iV x.1) rfl;have aa:=M.ld (q:=0) (x:=iV x.1) rfl;have ab:=M.ld (q:=1) (x:=iV x.2.id) rfl;have T3:=k3.ld (q:=2) (x:=X d.next 0) (by subst hy;rfl);have M3:=(M.nw (E.trans B)).ld (q:=7) (x:=iV x.2.mod) rfl;have L4:=(S.vw.bump 1).ld (q:=1) (x:=vv) rfl;have N4:=(ah.bump 1).ldN (n:=3) rfl;have am:=a.vw.2;obtain⟨w',h5,e5,o5,G,n5,f⟩:=S.row.aIL (bt:=24) (x:=y) (by omega) rfl (by omega);have v5:=S.vw.ch G a.nv;have af:=ae.ch G λe=>by have:=(a.row.eY e).2;omega
 obtain⟨k,v⟩:∃k,k=h5.put pv (some (O (N 246 true) [iV box,w',iV had])):=⟨_,rfl⟩
 have S6:aS 1 (X pv 1) w' h5=D V.undef k:=by rw[v];exact v5.st (q:=1) o5.cell (show 1<3 by omega)
 have v6:Kn k pv (O (N 246 true) [iV box,w',iV had]):=by rw[v];exact v5.put _
 have c6:Ch (λj=>j=pv) h5 k:=by rw[v];exact Ch.put _ _ rfl
 have ag:=af.ch c6 λe=>by have:=congrArg Pos.nat e;omega
 obtain⟨r,w⟩:∃r,r=k.put pv (some (O (N 246 true) [iV box,w',iV (max had x.1)])):=⟨_,rfl⟩
 have S7:aS 1 (X pv 2) (iV (max had x.1)) k=D V.undef r:=by rw[w];exact v6.st (q:=2) ⟨rfl,rfl⟩ (show 2<3 by omega)
 have v7:Kn r pv (O (N 246 true) [iV box,w',iV (max had x.1)]):=by rw[w];exact v6.put _
 have c7:Ch (λj=>j=pv) k r:=by rw[w];exact Ch.put _ _ rfl
 have L6:=v6.ld (q:=2) (x:=iV had) rfl;have M6:=ag.ld (q:=0) (x:=iV x.1) rfl;have i:Ch (λj=>j=pv) h5 r:=c6.trans c7 λ_ _ q=>q;rw[azJ];simp only[vvB,seval,axM,aov,aou,aot,V.cZ,<-I,aa,ab,bAt,ah9,<-J,B3,S3,T3,M3,e4];simp only[vvB,seval,aos,L4,N4,aTY,e5,S6];simp only[vvB,seval,aor,L6,M6,S7];refine⟨_,r,w',d.next,by simp only[bV,bQ,vvB,seval,bT]<;>rfl,⟨v7,?_,?_,?_,?_,?_,?_⟩,?_,λj e=>by have:=f j e;omega⟩
 ·rw[<-hy];exact o5.ch (aJ _) i (λj hj e=>by have:=f j hj;rw[e]at this;omega) λ_ _ q=>q.elim
 ·intro z c;rw[o!,p!]at c;rcases c with c|rfl
  ·have s:=a.sep z c;exact((S.told z c).ch G s.2).ch i s.1
  ·exact((show Kn o d.next (O (N 75 true) [iV x.2.mod]) from k4).ch G λe=>by have:=(a.row.eY e).2;omega).ch i λe=>by have:=congrArg Pos.nat e;omega
 ·rw[h!,List.nodup_append];refine⟨a.nd,by simp,?_⟩;intro z c z' L e;obtain⟨m,hm,rfl⟩:=r!.1 c;simp at L;subst L;have:=(a.told m hm).2
  rw[e]at this;omega
 ·intro z c;rw[o!,p!]at c;rcases c with c|rfl
  ·have s:=a.sep z c;have:=(a.told z c).2;exact⟨s.1,λe=>by have:=f _ e;omega⟩
  ·exact⟨λe=>by have:=congrArg Pos.nat e;simp only at this;omega,λe=>by have:=f _ e;simp only at this;omega⟩
 ·intro e;have:=f _ e;omega
 ·refine⟨a.lo.1,λz c=>?_⟩;rw[o!,p!]at c;rcases c with c|rfl
  ·exact a.lo.2 z c
  ·show b<=d.next.nat;omega
 ·exact(((Ch.refl _ h).trans C λ_ _ q=>q.elim).trans G λj _ e=>.inr e).trans i λj _ e=>.inl e
end
end Go.Proofs.Im
namespace Go.Im
def mgK(y:Mg):Int×Int×Int:=(y.uid,y.id,y.told)
def thK(x:Int×Ml):Int×Int×Int:=(x.1,x.2.id,x.2.mod)
def afN(l:List (Int×Ml)):Int:=l.foldl (λa x=>max a x.1) 0
end Go.Im
namespace Go.Proofs.Im
section
variable{h h' g:Hp}{F I:Pos->Prop}{ps pl ib p pv:Pos}{A:Acc}{cb:Cap}{fb:Bool}{vm vl vv:V}{b:Nat}{l:List Mg}{box:Int}
def aFy{b:Bx}{p:Pos}{n:Int}{w:Wr}(k:Kn g p (O w [iV n])):PV [.agg (V.ofList (gY b)),X p 0] g=D (K (decide (b.id=n))) (g.new (O (N 55 true) (gY b))):=by
 have e1:=(Kn.new g (O (N 55 true) (gY b))).ld (q:=0) (x:=iV b.id) rfl;have e2:=(k.add (O (N 55 true) (gY b))).ld (q:=0) (x:=iV n) rfl;rw[ayd];simp only[vvB,seval,asZ,ajU,ajT,V.cZ,e1,e2];simp only[bV,bQ,vvB,seval,bT]
def aDM(p:Pos)(x:V)(g:Hp):dD kM (.func (.func 290) .nil (.cons (X p 0) .nil)) [x] g=PV [x,X p 0] g:=(rfl)
def aIV(a:dL h F ps A pl ib cb fb vm vl I)(hA:A.Small){box:Int}(hs:(Wn A.mails box).Pairwise λx y=>x.1<y.1)(aa:(Wn A.mails box).length<50)(ab:(A.boxes.any λb=>decide (b.id=box))=true):
  ∃pv h' vv l,acr [X ps 0,iV box] h=D (.tuple (.cons (X pv 0) (.cons (iV 0) .nil))) h'/\abt h.next.nat h' pv box (afN (Wn A.mails box)) l vv/\Nw h h'/\l.map mgK=(Wn A.mails box).map thK:=by
 obtain⟨h1,ac,L,k1⟩:=mkW h (O (N 3 true) [iV box]);obtain⟨r,h2,e2,r2,J,-⟩:=Tz (a.nw L) hA;obtain⟨d,W,M⟩:=ahU (f:=.func (.func 290) .nil (.cons (X h.next 0) .nil)) r2 (aJ _) (λb:Bx=>decide (b.id=box)) (by have:=hA.boxes;omega) (λa cs g _ c e _=>by
  obtain rfl:cs=gY a:=e;exact⟨_,by rw[aDM];exact aFy (k1.nw (J.trans c)),Nw.new _ _⟩)
 have o:mX [r,.func (.func 290) .nil (.cons (X h.next 0) .nil)] h2=D (K true) d:=by rw[<-ab];exact W
 have F2:∀g,eP (.func 290) [] [X h.next 0] g=D (.func (.func 290) .nil (.cons (X h.next 0) .nil)) g:=λg=>rfl;have k3:=k1.nw (J.trans M);have L3:=k3.ld (q:=0) (x:=iV box) rfl;obtain⟨h4,ad,Q,k4⟩:=mkW d (O (N 246 true) [iV box,.aP,iV 0]);have B4:bW [Y U 0,.aP,Y U 0] [(0,1,iV box)] d=D (.agg (V.ofList [iV box,.aP,iV 0])) d:=(rfl)
 have L4:=(k3.nw Q).ld (q:=0) (x:=iV box) rfl;have C:Nw h h4:=((L.trans J).trans M).trans Q;obtain⟨af,z,e5,o5,S⟩:=XH (a.nw C) hA hs aa;have R5:=(o5.rws dQ).mono (P':=λj=>h4.next.nat<=j.nat/\j.nat<z.next.nat) dQ λj hj q=>⟨q,hj⟩
 have ak:=a.st.2;have n1:=L.next;have n2:=J.next;have n3:=M.next;have n4:=Q.next;have n5:=S.next;have al:=k4.2;have nn:∀g,aH .eql (.ptr 16) (X ps 0) .dn g=D (K false) g:=λg=>rfl;rw[azG]
 suffices T:aV j! _ (λr h'=>∃vv l,r=.tuple (.cons (X d.next 0) (.cons (iV 0) .nil))/\abt h.next.nat h' d.next box (afN (Wn A.mails box)) l vv/\Nw h h'/\l.map mgK=(Wn A.mails box).map thK)
   (amj (T.set (some (iV box)) (e! 1) (T.set (some (X ps 0)) (e! 0) T.nil)) h) by
  obtain⟨r,h',e,vv,l,rfl,q⟩:=T;exact⟨_,h',vv,l,e,q⟩
 simp only[vvB,seval,amj,aoe,aod,aoc,aob,aoa,apz,alp,<-ac,nn,e2,F2,o,L3,B4,ah9,V.cZ,<-ad,L4,e5,R5.len];refine Oc.then (dP (σ:=V×List Mg) (n:=(Wn A.mails box).length) (pi:=25) (pn:=24) (pc:=26) [6,23] (λ_=> [X d.next 0,af]) (λk s g=>abt h.next.nat g d.next box (afN ((Wn A.mails box).take k)) s.2 s.1/\Ch (λj=>j=d.next\/z.next.nat<=j.nat) z g/\s.2.map mgK=((Wn A.mails box).take k).map thK/\∀j,bI s.1=some j->z.next.nat<=j.nat)
  (A:=λfr g=>fr.get (e! 6)=some (X d.next 0)/\∃vv l,abt h.next.nat g d.next box (afN (Wn A.mails box)) l vv/\Ch (λj=>j=d.next\/z.next.nat<=j.nat) z g/\l.map mgK=(Wn A.mails box).map thK) (B:=λfr g=>False) (s:=(.aP,[]))
  (λfr h _ k e1 e2=>by simp only[vvB,seval,an9,e1,e2]) (λfr h k _ e1=>by simp(disch:=omega)only[vvB,seval,ajm,e1]) (by decide) (by rw[dR];omega) (qK0) (qK0) (by simp only[Fa,vvB,seval,and_self])
  ⟨⟨k4.nw S,dF.nil _ _ _ _ _ _,λ_ q=>(by cases q),.nil,λ_ q=>(by cases q),λq=>(by cases q),⟨by omega,λ_ q=>(by cases q)⟩⟩,Ch.refl _ _,rfl,λ_ q=>(by cases q)⟩ ?_ ?_) ?_ ?_
 ·rintro k ⟨vv,l⟩ fr g hk E Z fa hI;obtain⟨w,t,-⟩:=fa;obtain⟨v,c,hl,hv⟩:=hI;obtain⟨x,hx⟩:∃x,(Wn A.mails box)[k]?=some x:=⟨_,a! hk⟩
  obtain⟨i,q,cs,e1,⟨vk,vs,rfl,rk,rs⟩,-,-,-,-,W⟩:=(R5.ch (P':=λ_=>True) dQ c λj hj q=>⟨trivial,λe=>by rcases e with rfl|e<;>omega⟩).elt hx;have o:=W g rfl;obtain⟨g2,G,-,k2⟩:=mkW g (O (N 250 true) (thC x vk vs));have S2:=mkT 9 zTh G;have m:Nw g g2:=by rw[G];exact Nw.new _ _
  have aj:=c.next;have ai:=m.next;have ah:l.length=k:=by have:=congrArg List.length hl;simp at this;omega
  obtain⟨u,g3,ag,q',e6,v6,c6,ae⟩:=aIY (P:=λ_=>True) (v.nw m) (by omega) (by show l.length<=1000;omega) (x:=x) (vk:=vk) (vs:=vs);simp only[vvB,seval,an8,an7,E,t,w,e1,o,S2,k2.ldN (n:=9) rfl,e6];refine⟨qK2 E,qK2 Z,(ag,l++ [{uid:=x.1,id:=x.2.id,told:=x.2.mod,at_:=q'}]),by simp only[Fa,vvB,seval,w,t,and_self],?_,?_,?_,?_⟩
  ·rw[take_snoc hx];have:afN ((Wn A.mails box).take k++ [x])=max (afN ((Wn A.mails box).take k)) x.1:=by simp[afN,List.foldl_append]
   rw[this];exact v6
  ·exact(c.trans m λ_ _ q=>q.elim).trans c6 λj hj q=>q.imp id λe=>by have:=hv j e;omega
  ·simp only[h!];rw[hl,take_snoc hx,h!];rfl
  ·intro j e;have:=ae j e;omega
 ·rintro⟨vv,l⟩ fr g fa hI;obtain⟨w,t,-⟩:=fa;obtain⟨v,c,hl,hv⟩:=hI;rw[b!]at v hl;exact⟨w,vv,l,v,c,hl⟩
 ·rintro fr g ⟨w,vv,l,v,c,hl⟩;simp only[vvB,seval,ajl,w];exact aV.ret (qT0) ⟨vv,l,rfl,v,((C.trans S).then c λj hj e=>by rcases e with rfl|e<;>omega),hl⟩
 ·intro fr g q;exact q.elim
end
end Go.Proofs.Im
namespace Go.Im
structure VwR (tV tM tA:TypeId) (h:Hp) (J:Pos->Prop) (pv:Pos) (box had:Int) (l:List Mg) (vv:V):Prop where
 vw:Kn h pv (O (N tV true) [iV box,vv,iV had])
 row:(l= []/\vv=.aP)\/∃i f rest,vv=.slice i 0 l.length (.un 3)/\Kn h i (O (N tM f) ((l.map mgC).flatten++rest))
 told:∀x∈l,Kn h x.at_ (O (N tA true) [iV x.told])
 nd:(l.map (·.at_)).Nodup
 sep:∀x∈l,x.at_≠pv/\bI vv≠some x.at_
 nv:bI vv≠some pv
 foot:J pv/\(∀j,bI vv=some j->J j)/\∀x∈l,J x.at_
 lt:∀j,J j->j.nat<h.next.nat
def VwR.rws{tV tM tA:TypeId}{h:Hp}{J:Pos->Prop}{pv:Pos}{box had:Int}{l:List Mg}{vv:V}(a:VwR tV tM tA h J pv box had l vv):Rws J (flat mgC) 3 h vv l:=by
 rcases a.row with⟨rfl,rfl⟩|⟨i,f,rest,rfl,k⟩
 ·exact Rws.aP _ _ _ _
 ·have b:∀d∈l.map mgC,d.length=3:=λd hd=>by obtain⟨x,_,rfl⟩:=r!.1 hd;rfl
  have hl:(l.map mgC).flatten.length=l.length*3:=by rw[ji b,g!]
  refine⟨l.map mgC,?_,b,⟨hl,.inr ⟨i,0,_,N tM f,(l.map mgC).flatten++rest,rfl,k.2,by rw[k.1];rfl,λq c=>?_⟩⟩,λ_ _ _ _ e=>(by cases e;rfl),λj hj=>a.foot.2.1 j hj⟩
  ·have:∀m:List Mg,All2 (flat mgC J h) m (m.map mgC):=λm=>by
    induction m with
    |nil=>exact .nil
    |cons x m n=>exact .cons rfl n
   exact this l
  ·rw[u!,x!];rw[hl];exact c
def VwR.ch{tV tM tA:TypeId}{h h':Hp}{J S:Pos->Prop}{pv:Pos}{box had:Int}{l:List Mg}{vv:V}(a:VwR tV tM tA h J pv box had l vv)(c:Ch S h h')(b:∀j,J j->¬S j):VwR tV tM tA h' J pv box had l vv where
 vw:=a.vw.ch c (b _ a.foot.1)
 row:=a.row.imp id λ⟨i,f,rest,e,k⟩=>⟨i,f,rest,e,k.ch c (b i (a.foot.2.1 i (by rw[e];rfl)))⟩
 told:=λx q=>(a.told x q).ch c (b _ (a.foot.2.2 x q))
 nd:=a.nd
 sep:=a.sep
 nv:=a.nv
 foot:=a.foot
 lt:=λj q=>I! (a.lt j q) c.next
def VwG.vwr{tV tM tA:TypeId}{h:Hp}{pv:Pos}{box had:Int}{l:List Mg}{vv:V}{b:Nat}(a:VwG tV tM tA b h pv box had l vv):VwR tV tM tA h (λj=>b<=j.nat/\j.nat<h.next.nat) pv box had l vv where
 vw:=a.vw
 row:=by
  by_cases hl:l= []
  ·subst hl;obtain⟨d,x,k,s⟩:=a.row;rcases s.is with⟨_,e⟩|⟨i,e,hb,hi,f,c⟩
   ·exact .inl ⟨rfl,e⟩
   ·cases x;exact .inr ⟨i,f,[],e,by simpa using c,hi⟩
  ·obtain⟨d,x,k,s⟩:=a.row;rcases s.is with⟨h0,e⟩|⟨i,e,hb,hi,f,c⟩
   ·exact absurd (y!.1 h0) hl
   ·refine .inr ⟨i,f,[],e,?_,hi⟩;rw[x.flat]at c;simpa using c
 told:=a.told
 nd:=a.nd
 sep:=a.sep
 nv:=a.nv
 foot:=⟨⟨a.lo.1,a.vw.2⟩,λj e=>a.row.eY e,λx q=>⟨a.lo.2 x q,(a.told x q).2⟩⟩
 lt:=λj q=>q.2
end Go.Im
namespace Go.Proofs.Im
section
variable{h h' g:Hp}{J:Pos->Prop}{pv:Pos}{A:Acc}{vv:V}{l:List Mg}{box had:Int}
abbrev VwK(h:Hp)(J:Pos->Prop)(pv:Pos)(box had:Int)(l:List Mg)(vv:V):Prop:=VwR 246 248 75 h J pv box had l vv
def aIX(a:VwK h J pv box had l vv):acu [X pv 0] h=D (iV box) h:=by
 have L:=a.vw.ld (q:=0) (x:=iV box) rfl;rw[azI];simp only[vvB,seval,axL,akP,aop,aoo,fG,L,bV,bQ,bT]
def af0(a:VwK h J pv box had l vv)(hl:l.length<=1000):
  ∃r h',IB [X pv 0] h=D r h'/\gK h.next.nat (flat iG) 3 1 h' r (l.map (·.uid))/\Nw h h':=by
 have L:=a.vw.ld (q:=1) (x:=vv) rfl;have R:=a.rws;rw[ayb];show aV j! _ (λr h'=>gK h.next.nat (flat iG) 3 1 h' r (l.map (·.uid))/\Nw h h') _;simp only[vvB,seval,asT,zO,ajb,agf,ai9,ak6,fG,L,R.len];refine Oc.then (dP (σ:=V) (n:=l.length) (pi:=13) (pn:=12) (pc:=14) [3,11] (λv=> [v,vv]) (λk v g=>Nw h g/\gK h.next.nat (flat iG) 3 1 g v ((l.map (·.uid)).take k))
  (A:=λfr g=>∃v,fr.get (e! 3)=some v/\Nw h g/\gK h.next.nat (flat iG) 3 1 g v (l.map (·.uid))) (B:=λfr g=>False) (s:=.aP)
  (λfr h _ k e1 e2=>by simp only[vvB,seval,Po,e1,e2]) (λfr h k _ e1=>by simp(disch:=omega)only[vvB,seval,Pg,e1]) (by decide) (by rw[dR];omega) (qK0) (qK0) (by simp only[Fa,vvB,seval,and_self]) ⟨Nw.refl _,gK.nil _ _ _ _ _⟩ ?_ ?_) ?_ ?_
 ·intro k v fr g W w P m p;obtain⟨f3,u,-⟩:=m;obtain⟨c,o⟩:=p;obtain⟨x,z⟩:∃x,l[k]?=some x:=⟨_,a! W⟩
  obtain⟨i,q,cs,e1,e2,-,-,-,-,I⟩:=(R.nw (aJ _) c).elt z;obtain rfl:cs=mgC x:=e2;have d:=I g rfl;obtain⟨y,t,b,k2⟩:=mkW g (O (N 248 true) (mgC x));have E:=mkT 3 zVm t;have S:=c.next;have Z:=b.next;obtain⟨C,Q,f,o5,G,n5,-⟩:=(o.nw (aJ _) b).app (bt:=8) (x:=x.uid) (cs:=iG x.uid) (P0:=λ_=>False) (aJ _) (by omega) rfl rfl (λj _ q=>q.elim) (by simp;omega);have f:bZ 3 1 8 v (.slice y.next 0 1 (.kn 1)) (y.new (O (N 3 true) [iV x.uid]))=D C Q:=f;simp only[vvB,seval,ai7,ac2,f3,u,w,e1,d,E,k2.ld (q:=0) (x:=iV x.uid) rfl,yF,f];refine⟨qK2 w,qK2 P,C,by simp only[Fa,vvB,seval,u,and_self],?_,?_⟩
  ·exact(c.trans b).own G λj e=>(o.eY e).1
  ·rw[take_snoc (show(l.map (·.uid))[k]?=some x.uid by rw[t!,z];rfl)];exact o5
 ·intro v fr g m p;obtain⟨f3,M,-⟩:=m;obtain⟨c,o⟩:=p;rw[z! (by simp)]at o;exact⟨v,f3,c,o⟩
 ·rintro fr g ⟨v,f3,c,o⟩;simp only[vvB,seval,ajV,f3];exact aV.ret (r:=v) (qT0) ⟨o,c⟩
 ·intro fr g q;exact q.elim
def aIW(a:VwK h J pv box had l vv)(hl:l.length<=1000):
  ∃r h',acs [X pv 0] h=D r h'/\gK h.next.nat (flat iG) 3 1 h' r (l.map (·.id))/\Nw h h':=by
 have L:=a.vw.ld (q:=1) (x:=vv) rfl;have R:=a.rws;rw[azH];show aV j! _ (λr h'=>gK h.next.nat (flat iG) 3 1 h' r (l.map (·.id))/\Nw h h') _;simp only[vvB,seval,axK,zO,ajb,agf,ai9,apA,fG,L,R.len];refine Oc.then (dP (σ:=V) (n:=l.length) (pi:=13) (pn:=12) (pc:=14) [3,11] (λv=> [v,vv]) (λk v g=>Nw h g/\gK h.next.nat (flat iG) 3 1 g v ((l.map (·.id)).take k))
  (A:=λfr g=>∃v,fr.get (e! 3)=some v/\Nw h g/\gK h.next.nat (flat iG) 3 1 g v (l.map (·.id))) (B:=λfr g=>False) (s:=.aP)
  (λfr h _ k e1 e2=>by simp only[vvB,seval,Po,e1,e2]) (λfr h k _ e1=>by simp(disch:=omega)only[vvB,seval,Pg,e1]) (by decide) (by rw[dR];omega) (qK0) (qK0) (by simp only[Fa,vvB,seval,and_self]) ⟨Nw.refl _,gK.nil _ _ _ _ _⟩ ?_ ?_) ?_ ?_
 ·intro k v fr g W w P m p;obtain⟨f3,u,-⟩:=m;obtain⟨c,o⟩:=p;obtain⟨x,z⟩:∃x,l[k]?=some x:=⟨_,a! W⟩
  obtain⟨i,q,cs,e1,e2,-,-,-,-,I⟩:=(R.nw (aJ _) c).elt z;obtain rfl:cs=mgC x:=e2;have d:=I g rfl;obtain⟨y,t,b,k2⟩:=mkW g (O (N 248 true) (mgC x));have E:=mkT 3 zVm t;have S:=c.next;have Z:=b.next;obtain⟨C,Q,f,o5,G,n5,-⟩:=(o.nw (aJ _) b).app (bt:=8) (x:=x.id) (cs:=iG x.id) (P0:=λ_=>False) (aJ _) (by omega) rfl rfl (λj _ q=>q.elim) (by simp;omega);have f:bZ 3 1 8 v (.slice y.next 0 1 (.kn 1)) (y.new (O (N 3 true) [iV x.id]))=D C Q:=f;simp only[vvB,seval,ai7,aoh,f3,u,w,e1,d,E,k2.ld (q:=1) (x:=iV x.id) rfl,yF,f];refine⟨qK2 w,qK2 P,C,by simp only[Fa,vvB,seval,u,and_self],?_,?_⟩
  ·exact(c.trans b).own G λj e=>(o.eY e).1
  ·rw[take_snoc (show(l.map (·.id))[k]?=some x.id by rw[t!,z];rfl)];exact o5
 ·intro v fr g m p;obtain⟨f3,M,-⟩:=m;obtain⟨c,o⟩:=p;rw[z! (by simp)]at o;exact⟨v,f3,c,o⟩
 ·rintro fr g ⟨v,f3,c,o⟩;simp only[vvB,seval,ajV,f3];exact aV.ret (r:=v) (qT0) ⟨o,c⟩
 ·intro fr g q;exact q.elim
end
end Go.Proofs.Im
