/- Lemmas. No conditions. -/
import Derived.Test.YtpgppmioigacoaaGreatDoorSAT
import Derived.Test.YtpgppmioigacoaaGreatDoorSAR
set_option linter.all false
set_option maxRecDepth 100000
open Go.Vm.Pos renaming of→a!
open List renaming getElem?_eq_some_iff→b!,getElem?_eq_getElem→c!,drop_eq_getElem_cons→e!,map_cons→g!,mem_append→h!,getElem?_map→i!,length_map→j!,map_nil→k!,take_of_length_le→l!,mem_of_getElem?→o!,mem_singleton→p!,findIdx?_eq_some_iff_getElem→q!,append_assoc→r!,length_take→u!,length_cons→v!,length_append→C!,find?_append→D!,take_length→E!,append_nil→F!,length→G!
open Go.Proofs.Tryz renaming prog→d!
open Int renaming reduceEq→n!
open Go.Vm.Out renaming nor→t!,ret→w!
open Nat renaming zero_add→x!,le_trans→y!,add_zero→z!,le_refl→B!
open Go.Vm.V renaming int→Y,ptr→X,bool→K,str→H
open Go.IntKind renaming i64→U
open Go.Vm.Ob renaming cells→O
open Go.Vm.Wr renaming rw→N
open Go.Vm.R renaming ok→D
noncomputable section
open Go Go.Vm Go.Proofs Go.Im Go.Proofs.Im Go.Ln
namespace Go.Im
structure VwR (tV tM tA:TypeId) (h:Hp) (J:Pos->Prop) (pv:Pos) (box had:Int) (l:List Mg) (vv:V):Prop where
 vw:Kn h pv (O (N tV true) [iV box,vv,iV had])
 row:(l= []/\vv=.aQ)\/∃i f rest,vv=.slice i 0 l.length (.un 3)/\Kn h i (O (N tM f) ((l.map mgC).flatten++rest))
 told:∀x∈l,Kn h x.at_ (O (N tA true) [iV x.told])
 nd:(l.map (·.at_)).Nodup
 sep:∀x∈l,x.at_≠pv/\bV vv≠some x.at_
 nv:bV vv≠some pv
 foot:J pv/\(∀j,bV vv=some j->J j)/\∀x∈l,J x.at_
 lt:∀j,J j->j.nat<h.next.nat
def VwR.rws{tV tM tA:TypeId}{h:Hp}{J:Pos->Prop}{pv:Pos}{box had:Int}{l:List Mg}{vv:V}(a:VwR tV tM tA h J pv box had l vv):Rws J (flat mgC) 3 h vv l:=by
 rcases a.row with⟨rfl,rfl⟩|⟨i,f,rest,rfl,k⟩
 ·exact Rws.aQ _ _ _ _
 ·have b:∀d∈l.map mgC,d.length=3:=λd hd=>by obtain⟨x,_,rfl⟩:=List.mem_map.1 hd;rfl
  have hl:(l.map mgC).flatten.length=l.length*3:=by rw[oD b,j!]
  refine⟨l.map mgC,?_,b,⟨hl,.inr ⟨i,0,_,N tM f,(l.map mgC).flatten++rest,rfl,k.2,by rw[k.1];rfl,λq c=>?_⟩⟩,λ_ _ _ _ e=>(by cases e;rfl),λj hj=>a.foot.2.1 j hj⟩
  ·have:∀m:List Mg,All2 (flat mgC J h) m (m.map mgC):=λm=>by
    induction m with
    |nil=>exact .nil
    |cons x m n=>exact .cons rfl n
   exact this l
  ·rw[x!,List.getElem?_append_left];rw[hl];exact c
def VwR.ch{tV tM tA:TypeId}{h h':Hp}{J S:Pos->Prop}{pv:Pos}{box had:Int}{l:List Mg}{vv:V}(a:VwR tV tM tA h J pv box had l vv)(c:Ch S h h')(b:∀j,J j->¬S j):VwR tV tM tA h' J pv box had l vv where
 vw:=a.vw.ch c (b _ a.foot.1)
 row:=a.row.imp id λ⟨i,f,rest,e,k⟩=>⟨i,f,rest,e,k.ch c (b i (a.foot.2.1 i (by rw[e];rfl)))⟩
 told:=λx q=>(a.told x q).ch c (b _ (a.foot.2.2 x q))
 nd:=a.nd
 sep:=a.sep
 nv:=a.nv
 foot:=a.foot
 lt:=λj q=>Nat.lt_of_lt_of_le (a.lt j q) c.next
def VwG.vwr{tV tM tA:TypeId}{h:Hp}{pv:Pos}{box had:Int}{l:List Mg}{vv:V}{b:Nat}(a:VwG tV tM tA b h pv box had l vv):VwR tV tM tA h (λj=>b<=j.nat/\j.nat<h.next.nat) pv box had l vv where
 vw:=a.vw
 row:=by
  by_cases hl:l= []
  ·subst hl;obtain⟨d,x,k,s⟩:=a.row;rcases s.is with⟨_,e⟩|⟨i,e,hb,hi,f,c⟩
   ·exact .inl ⟨rfl,e⟩
   ·cases x;exact .inr ⟨i,f,[],e,by simpa using c,hi⟩
  ·obtain⟨d,x,k,s⟩:=a.row;rcases s.is with⟨h0,e⟩|⟨i,e,hb,hi,f,c⟩
   ·exact absurd (List.length_eq_zero_iff.1 h0) hl
   ·refine .inr ⟨i,f,[],e,?_,hi⟩;rw[x.flat]at c;simpa using c
 told:=a.told
 nd:=a.nd
 sep:=a.sep
 nv:=a.nv
 foot:=⟨⟨a.lo.1,a.vw.2⟩,λj e=>a.row.fF e,λx q=>⟨a.lo.2 x q,(a.told x q).2⟩⟩
 lt:=λj q=>q.2
end Go.Im
namespace Go.Proofs.Im
section
variable{h h' g:Hp}{J:Pos->Prop}{pv:Pos}{A:Acc}{vv:V}{l:List Mg}{box had:Int}
abbrev VwK(h:Hp)(J:Pos->Prop)(pv:Pos)(box had:Int)(l:List Mg)(vv:V):Prop:=VwR 246 248 75 h J pv box had l vv
def av8(a:VwK h J pv box had l vv):VH [X pv 0] h=D (iV box) h:=by
 have L:=a.vw.ld (q:=0) (x:=iV box) rfl;rw[ayQ];simp only[vvB,seval,awZ,ajP,anl,ank,fM,L,bU,bT,bW]
def aff(a:VwK h J pv box had l vv)(hl:l.length<=1000):
  ∃r h',Hz [X pv 0] h=D r h'/\iU h.next.nat (flat eu) 3 1 h' r (l.map (·.uid))/\Nw h h':=by
 have L:=a.vw.ld (q:=1) (x:=vv) rfl;have R:=a.rws;rw[axr];show aX d! _ (λr h'=>iU h.next.nat (flat eu) 3 1 h' r (l.map (·.uid))/\Nw h h') _;simp only[vvB,seval,ar8,Au,aiw,afr,aiu,akc,fM,L,R.len];refine Oc.then (dO (σ:=V) (n:=l.length) (pi:=13) (pn:=12) (pc:=14) [3,11] (λv=> [v,vv]) (λk v g=>Nw h g/\iU h.next.nat (flat eu) 3 1 g v ((l.map (·.uid)).take k))
  (A:=λfr g=>∃v,fr.get (a! 3)=some v/\Nw h g/\iU h.next.nat (flat eu) 3 1 g v (l.map (·.uid))) (B:=λfr g=>False) (s:=.aQ)
  (λfr h _ k e1 e2=>by simp only[vvB,seval,afp,e1,e2]) (λfr h k _ e1=>by simp(disch:=omega)only[vvB,seval,afm,e1]) (by decide) (by rw[dP];omega) (qK0) (qK0) (by simp only[Fa,vvB,seval,and_self]) ⟨Nw.refl _,iU.nil _ _ _ _ _⟩ ?_ ?_) ?_ ?_
 ·intro k v fr g hk w M m p;obtain⟨f3,u,-⟩:=m;obtain⟨c,o⟩:=p;obtain⟨x,z⟩:∃x,l[k]?=some x:=⟨_,c! hk⟩
  obtain⟨i,q,cs,e1,e2,-,-,-,-,G⟩:=(R.nw (aN _) c).elt z;obtain rfl:cs=mgC x:=e2;have d:=G g rfl;obtain⟨y,t,b,W⟩:=mkW g (O (N 248 true) (mgC x));have C:=mkT 3 zVm t;have Q:=c.next;have S:=b.next;obtain⟨v',P,f,Z,E,n5,-⟩:=(o.nw (aN _) b).app (bt:=8) (x:=x.uid) (cs:=eu x.uid) (P0:=λ_=>False) (aN _) (by omega) rfl rfl (λj _ q=>q.elim) (by simp;omega);have f:bZ 3 1 8 v (.slice y.next 0 1 (.kn 1)) (y.new (O (N 3 true) [iV x.uid]))=D v' P:=f;simp only[vvB,seval,ais,ab8,f3,u,w,e1,d,C,W.ld (q:=0) (x:=iV x.uid) rfl,yM,f];refine⟨qK2 w,qK2 M,v',by simp only[Fa,vvB,seval,u,and_self],?_,?_⟩
  ·exact(c.trans b).own E λj e=>(o.fF e).1
  ·rw[take_snoc (show(l.map (·.uid))[k]?=some x.uid by rw[i!,z];rfl)];exact Z
 ·intro v fr g m p;obtain⟨f3,I,-⟩:=m;obtain⟨c,o⟩:=p;rw[l! (by simp)]at o;exact⟨v,f3,c,o⟩
 ·rintro fr g ⟨v,f3,c,o⟩;simp only[vvB,seval,afl,f3];exact aX.ret (r:=v) (qT0) ⟨o,c⟩
 ·intro fr g q;exact q.elim
def aHp(a:VwK h J pv box had l vv)(hl:l.length<=1000):
  ∃r h',abB [X pv 0] h=D r h'/\iU h.next.nat (flat eu) 3 1 h' r (l.map (·.id))/\Nw h h':=by
 have L:=a.vw.ld (q:=1) (x:=vv) rfl;have R:=a.rws;rw[ayP];show aX d! _ (λr h'=>iU h.next.nat (flat eu) 3 1 h' r (l.map (·.id))/\Nw h h') _;simp only[vvB,seval,awY,Au,aiw,afr,aiu,aoz,fM,L,R.len];refine Oc.then (dO (σ:=V) (n:=l.length) (pi:=13) (pn:=12) (pc:=14) [3,11] (λv=> [v,vv]) (λk v g=>Nw h g/\iU h.next.nat (flat eu) 3 1 g v ((l.map (·.id)).take k))
  (A:=λfr g=>∃v,fr.get (a! 3)=some v/\Nw h g/\iU h.next.nat (flat eu) 3 1 g v (l.map (·.id))) (B:=λfr g=>False) (s:=.aQ)
  (λfr h _ k e1 e2=>by simp only[vvB,seval,afp,e1,e2]) (λfr h k _ e1=>by simp(disch:=omega)only[vvB,seval,afm,e1]) (by decide) (by rw[dP];omega) (qK0) (qK0) (by simp only[Fa,vvB,seval,and_self]) ⟨Nw.refl _,iU.nil _ _ _ _ _⟩ ?_ ?_) ?_ ?_
 ·intro k v fr g hk w M m p;obtain⟨f3,u,-⟩:=m;obtain⟨c,o⟩:=p;obtain⟨x,z⟩:∃x,l[k]?=some x:=⟨_,c! hk⟩
  obtain⟨i,q,cs,e1,e2,-,-,-,-,G⟩:=(R.nw (aN _) c).elt z;obtain rfl:cs=mgC x:=e2;have d:=G g rfl;obtain⟨y,t,b,W⟩:=mkW g (O (N 248 true) (mgC x));have C:=mkT 3 zVm t;have Q:=c.next;have S:=b.next;obtain⟨v',P,f,Z,E,n5,-⟩:=(o.nw (aN _) b).app (bt:=8) (x:=x.id) (cs:=eu x.id) (P0:=λ_=>False) (aN _) (by omega) rfl rfl (λj _ q=>q.elim) (by simp;omega);have f:bZ 3 1 8 v (.slice y.next 0 1 (.kn 1)) (y.new (O (N 3 true) [iV x.id]))=D v' P:=f;simp only[vvB,seval,ais,anc,f3,u,w,e1,d,C,W.ld (q:=1) (x:=iV x.id) rfl,yM,f];refine⟨qK2 w,qK2 M,v',by simp only[Fa,vvB,seval,u,and_self],?_,?_⟩
  ·exact(c.trans b).own E λj e=>(o.fF e).1
  ·rw[take_snoc (show(l.map (·.id))[k]?=some x.id by rw[i!,z];rfl)];exact Z
 ·intro v fr g m p;obtain⟨f3,I,-⟩:=m;obtain⟨c,o⟩:=p;rw[l! (by simp)]at o;exact⟨v,f3,c,o⟩
 ·rintro fr g ⟨v,f3,c,o⟩;simp only[vvB,seval,afl,f3];exact aX.ret (r:=v) (qT0) ⟨o,c⟩
 ·intro fr g q;exact q.elim
end
end Go.Proofs.Im
namespace Go.Im
def _root_.Go.Vm.Rws.strs{P:Pos->Prop}{h:Hp}{v:V}{l:List (List Nat)}(r:Rws P (flat jT) 1 h v l):Sl h.next.nat h 1 v l.length (l.map H)/\zO 1 v:=by
 obtain⟨b,a,c,s,k,p⟩:=r;have:b.flatten=l.map H:=by rw[a.flat];exact amy l
 rw[this]at s;exact⟨s,k⟩
abbrev jc:List Nat:= [73,78,66,79,88]
def aag(p:List Nat):List Nat:=if foldM p=foldM jc then jc else p
def vK(l:List Bx)(p:List Nat):Option Bx:=l.find? λb=>decide (b.name=aag p)
structure TopB (l:List Bx):Prop where
 few:l.length<=1000
 top:∀b∈l,b.par=0
 name:∀b∈l,b.name.length<=1000000/\∀c∈b.name,c<256
 once:∀(k:Nat) (b:Bx),l[k]?=some b->l.findIdx? (λx=>decide (x.id=b.id))=some k
end Go.Im
namespace Go.Proofs.Im
section
variable{h h' g:Hp}{P:Pos->Prop}{p:Pos}{A:Acc}{v:V}{l:List Bx}
def asU{b:Bx}{p:Pos}{n:Int}{w:Wr}(k:Kn g p (O w [iV n])):y8 [.agg (V.ofList (gI b)),X p 0] g=D (K (decide (b.id=n))) (g.new (O (N 55 true) (gI b))):=by
 have e1:=(Kn.new g (O (N 55 true) (gI b))).ld (q:=0) (x:=iV b.id) rfl;have e2:=(k.add (O (N 55 true) (gI b))).ld (q:=0) (x:=iV n) rfl;rw[alD];simp only[vvB,seval,ase,ai4,ai3,V.dB,e1,e2];simp only[bU,bT,vvB,seval,bW]
def apJ(p:Pos)(x:V)(g:Hp):dn kC (.func (.func 301) .nil (.cons (X p 0) .nil)) [x] g=y8 [x,X p 0] g:=(rfl)
def awl(r:Rws P (flat gI) 6 h v l)(hn:l.length<=1000)(n:Int):∃h',JY [v,iV n] h=D (iV (gB (l.findIdx? λb=>decide (b.id=n)))) h'/\Nw h h':=by
 obtain⟨m,a,c,k⟩:=mkW h (O (N 3 true) [iV n]);obtain⟨j,e2,d⟩:=zS (r.nw (aN _) c) (aN _) (λb=>decide (b.id=n)) (by omega) (f:=.func (.func 301) .nil (.cons (X h.next 0) .nil)) (λb cs g _ i e _=>by
  rw[show cs=gI b from e,apJ,asU (k.nw i)];exact⟨_,rfl,Nw.new _ _⟩)
 rw[aoF];simp only[vvB,seval,agz,anD,YQ,<-a,e2];exact⟨j,by simp only[bU,bT,vvB,seval,bW],c.trans d⟩
def asX{E:El (List Nat)}{el:TypeId}{b:Nat}{a:List Nat}(o:iU b E el 1 h v [a]):∃u,uV [v] h=D u h:=by
 have ol:=λg=>o.len g;rw[Zx]
 suffices T:aX d! [] (λu h'=>h'=h) (BV (T.set (some v) (a! 0) T.nil) h) by
  obtain⟨u,h',e,rfl⟩:=T;exact⟨u,e⟩
 simp(disch:=omega)only[vvB,seval,BV,I8,ol,v!,List.length_nil,x!,show((1:Nat):Int)=1 from rfl];refine(dW (n:=0) (λm fr g=>fr.get (a! 2)=some (Y U 0)/\fr.get (a! 3)=some (Y U 0)/\g=h) (A:=λfr g=>g=h) (B:=λ_ _=>False) (by rw[dP];omega) ⟨qK0,qK1,rfl⟩ ?_).out ?_ ?_
 ·rintro m fr g ⟨f2,f3,rfl⟩;simp(disch:=omega)only[vvB,seval,JS,I7,f2,f3];exact⟨rfl,rfl⟩
 ·rintro fr g rfl;exact aX.nor (qT0) rfl
 ·intro fr g q;exact q.elim
def aE0(r:Rws P (flat gI) 6 h v l)(o:TopB l){k:Nat}{b:Bx}(hb:l[k]?=some b):∃h',WZ [v,iV b.id] h=D (H b.name) h'/\Nw h h':=by
 have hk:=o.once k b hb;have y:=o! hb;have M:=(b!.1 hb).1;obtain⟨f,e1,t⟩:=awl r o.few b.id;rw[hk]at e1;simp only[gB]at e1;have r1:=r.nw (aN _) t;obtain⟨i,q,cs,Q,ex,-,hi,-,ld,-⟩:=r1.elt hb;obtain rfl:cs=gI b:=ex;have n1:=t.next;obtain⟨v',a,e2,o2,E,W,-⟩:=(iU.nil h.next.nat (flat jT) 9 1 f).app (bt:=16) (x:=b.name) (cs:=jT b.name) (P0:=λ_=>False) (aN _) (by omega) rfl rfl (λj _ q=>q.elim) (by simp);have e2:bZ 9 1 16 .aQ (.slice f.next 0 1 (.kn 1)) (f.new (O (N 9 true) [H b.name]))=D v' a:=e2;have d:Nw f a:=E.mono λ_ _ e=>by cases e
 have z:=ld f rfl 1 (H b.name) rfl;have C:aG (X i (q+2)) a=D (Y U 0) a:=by
  have:=ld a (d.get i hi λq=>q) 2 (iV b.par) rfl;rw[o.top b y]at this;exact this
 have s:=t.trans d;rw[axu]
 suffices T:aX d! [.tmp 4] (λr h'=>r=H b.name/\Nw h h') (agA (T.set (some (iV b.id)) (a! 1) (T.set (some v) (a! 0) T.nil)) h) by
  obtain⟨r,h',e,rfl,c⟩:=T;exact⟨h',e,c⟩
 simp only[vvB,seval,agA,Zk,ab4];refine Oc.then (dW (n:=0) (λm fr g=>fr.get (a! 0)=some v/\fr.get (a! 1)=some (iV b.id)/\fr.get (a! 5)=some .aQ/\g=h) (A:=λfr g=>fr.get (a! 5)=some v'/\g=a) (B:=λ_ _=>False) (by rw[dP];omega) ⟨qK0,qK0,qK0,rfl⟩ ?_) ?_ ?_
 ·rintro m fr g ⟨L,f1,w,rfl⟩;simp(disch:=omega)only[vvB,seval,ake,aiN,aiM,aiL,aiK,aiJ,L,f1,w,e1,Wl,r.len,Q,z,qI,e2,C];exact⟨rfl,qK0,rfl⟩
 ·rintro fr g ⟨w,rfl⟩;obtain⟨u,I⟩:=asX o2;obtain⟨sl,cap⟩:=(o2.rws (aN _)).strs;obtain⟨Z,S,J,rfl,G⟩:=akE (sep:= [47]) sl cap (B! _) (by simp) (by simp) (by have:=(o.name b y).1;simp[fV];omega) (by simpa using (o.name b y).2) (by simp) (.inl (by simp));simp only[vvB,seval,aiI,aiH,w,I,J];exact aX.ret (r:=H b.name) (qT0) ⟨rfl,s.trans G⟩
 ·intro fr g q;exact q.elim
end
end Go.Proofs.Im
namespace Go.Im
def aJt{α:Type}{f:α->Bool}{l:List α}{k:Nat}{x:α}(c:l[k]?=some x)(a:(l.take k).find? f=none)(d:f x=true):l.find? f=some x:=by
 have hk:=(b!.1 c).1;have b:=(b!.1 c).2;have:l.find? f=(l.take k++l.drop k).find? f:=by rw[List.take_append_drop]
 rw[this,D!,a,e! hk,b];simp[d]
end Go.Im
namespace Go.Proofs.Im
section
variable{h h' g:Hp}{P F I:Pos->Prop}{ps pl ib p ir:Pos}{A:Acc}{cb:Cap}{fb:Bool}{v vm vl:V}{l:List Bx}
theorem aE1(r:Rws P (flat gI) 6 h v l)(hT:TopB l){p:List Nat}(hp:p.length<1000)(C:∀c∈p,c<256)(ab:p≠ []):
  ∃h',W9 [v,H p] h=D (.tuple (.cons (iV (match vK l p with|some b=>b.id|none=>0)) (.cons (K (vK l p).isSome) .nil))) h'/\Nw h h':=by
 obtain⟨h1,e1,c1⟩:=TB h (s:=p) (by omega) C;obtain⟨z,e2,c2⟩:=TB h1 (s:=jc) (by decide) (by decide);have f:Nw h z:=Nw.trans c1 c2;obtain⟨q,M⟩:∃q,q=aag p:=⟨_,rfl⟩
 have ac:q≠ []:=by
  rw[M];unfold aag;split
  ·simp
  ·exact ab
 have ad:=hT.few;rw[axv]
 suffices T:aX d! [.tmp 4,.tmp 5] (λr h'=>r=.tuple (.cons (iV (match vK l p with|some b=>b.id|none=>0)) (.cons (K (vK l p).isSome) .nil))/\Nw h h') (WR (T.set (some (H p)) (a! 1) (T.set (some v) (a! 0) T.nil)) h) by
  obtain⟨r,h',e,rfl,c⟩:=T;exact⟨h',e,c⟩
 have E:vK l p=l.find? λb=>decide (b.name=q):=by rw[M];rfl
 have d:∀fr:F,fr.get (a! 0)=some v->fr.get (a! 1)=some (H q)->aX d! [.tmp 4,.tmp 5] (λr h'=>r=.tuple (.cons (iV (match vK l p with|some b=>b.id|none=>0)) (.cons (K (vK l p).isSome) .nil))/\Nw h h')
   (lF (lF (Xx fr z) (bI 0 (dI akf lf))) (aC Xz w!)):=by
  intro fr y f1;simp only[vvB,seval,Xx,y,r.len];refine Oc.then (dO (σ:=Unit) (n:=l.length) (pi:=14) (pn:=13) (pc:=15) [0,1,12] (λ_=> [v,H q,v]) (λk _ g=>Nw z g/\(l.take k).find? (λb=>decide (b.name=q))=none)
   (A:=λfr g=>Nw z g/\l.find? (λb=>decide (b.name=q))=none) (B:=λfr g=>∃b,fr.get (a! 4)=some (iV b.id)/\fr.get (a! 5)=some (K true)/\Nw z g/\l.find? (λb=>decide (b.name=q))=some b) (s:=())
   (λfr h _ k e1 e2=>by simp only[vvB,seval,ahJ,e1,e2]) (λfr h k _ e1=>by simp(disch:=omega)only[vvB,seval,aBp,e1]) (by decide) (by rw[dP];omega) (qK0) (qK0) (by simp only[Fa,vvB,seval,y,f1,and_self]) ⟨Nw.refl _,by simp⟩ ?_ ?_) ?_ ?_
  ·intro k _ fr g hk m Z fa hI;obtain⟨y,f1,j,-⟩:=fa;obtain⟨c,a⟩:=hI;obtain⟨x,Q⟩:∃x,l[k]?=some x:=⟨_,c! hk⟩
   have rg:=r.nw (aN _) (f.trans c);obtain⟨i,o,cs,ix,ex,-,-,-,-,ln⟩:=rg.elt Q;obtain rfl:cs=gI x:=ex;have J:=ln g rfl;obtain⟨g2,aa,W,k2⟩:=mkW g (O (N 55 true) (gI x));have S2:=mkT 6 [Y U 0,H [],Y U 0,Y U 0,Y U 0,Y U 0] aa;obtain⟨g3,e3,S⟩:=aE0 (rg.nw (aN _) W) hT Q;have L2:=k2.ld (q:=0) (x:=iV x.id) rfl;have L3:=(k2.nw S).ld (q:=0) (x:=iV x.id) rfl;have G:(q= [])=False:=eq_false ac;by_cases hn:x.name=q
   ·have u:(x.name=q)=True:=eq_true hn;simp only[vvB,seval,Xw,Xv,aiR,y,f1,j,m,ix,J,S2,L2,L3,e3,G,u];exact⟨x,qK0,qK0,(c.trans W).trans S,aJt Q a (decide_eq_true hn)⟩
   ·have u:(x.name=q)=False:=eq_false hn;simp only[vvB,seval,Xw,Xv,y,f1,j,m,ix,J,S2,L2,e3,G,u];refine⟨qK2 m,qK2 Z,(),by simp only[Fa,vvB,seval,y,f1,j,and_self],(c.trans W).trans S,?_⟩;rw[Go.Vm.take_snoc Q,D!,a];simp[hn]
  ·intro _ fr g fa hI;obtain⟨c,a⟩:=hI;rw[E!]at a;exact⟨c,a⟩
  ·rintro fr g ⟨c,a⟩;simp only[vvB,seval,Xz];refine aX.ret (qT0) ⟨?_,f.trans c⟩;rw[E,a];rfl
  ·rintro fr g ⟨b,f4,f5,c,hb⟩;refine aX.ret (by simp only[bT,vvB,seval,f4,f5,bW]<;>rfl) ⟨?_,f.trans c⟩;rw[E,hb];rfl
 by_cases L:foldM p=foldM jc
 ·have t:(foldM p=foldM jc)=True:=eq_true L;have w:q=jc:=by rw[M];unfold aag;rw[if_pos L]
  simp only[vvB,seval,WR,Xz,Xy,aiT,e1,e2,t];exact d _ (qK0) (by simp only[vvB,seval];rw[w])
 ·have t:(foldM p=foldM jc)=False:=eq_false L;have w:q=p:=by rw[M];unfold aag;rw[if_neg L]
  simp only[vvB,seval,WR,Xz,Xy,e1,e2,t];exact d _ (qK0) (by simp only[vvB,seval];rw[w])
def aJ0(h:Hp):XI [H jc] h=D (.tuple (.cons (H jc) (.cons (Y U 0) .nil))) h:=Bh (aJU _ _) h
def ae6{n:Nat}(hn:n<100)(h:Hp):oI [Y U (n:Int)] h=D (H (eX n)) h:=Bh (aAe hn) h
def ahx{n:Int}(h0:0<=n)(hn:n<100)(h:Hp):oI [Y U n] h=D (H (eX n.toNat)) h:=by
 have:=ae6 (n:=n.toNat) (by omega) h;rwa[Int.toNat_of_nonneg h0]at this
def aE8(a:dV h F ps A pl ib cb fb vm vl I)(i:A.Small)(k:TopB A.boxes){w:Wr}{L:List V}(kr:Kn h ir (O w L))(j:L[1]?=some (X ps 0)){b:Bx}(hb:vK A.boxes jc=some b):
  ∃h',Xe [X ir 0,H jc] h=D (.tuple (.cons (iV b.id) (.cons (iV 0) .nil))) h'/\Nw h h':=by
 have c:=kr.ld j;obtain⟨r,m,e1,r1,d,-⟩:=aaI a i;obtain⟨f,e2,e⟩:=aE1 r1 k (p:=jc) (by decide) (by decide) (by decide);rw[hb]at e2;simp only[Option.isSome_some]at e2;rw[axC];simp(disch:=omega)only[vvB,seval,asg,aje,ajd,ajc,ajb,aja,ai9,aJ0,c,e1,e2];exact⟨f,by simp only[bU,bT,vvB,seval,bW]<;>rfl,d.trans e⟩
def aE9{b:Bx}{p:Pos}{n:Int}{w:Wr}(k:Kn g p (O w [iV n])):PG [.agg (V.ofList (gI b)),X p 0] g=D (K (decide (b.id=n))) (g.new (O (N 55 true) (gI b))):=by
 have e1:=(Kn.new g (O (N 55 true) (gI b))).ld (q:=0) (x:=iV b.id) rfl;have e2:=(k.add (O (N 55 true) (gI b))).ld (q:=0) (x:=iV n) rfl;rw[axD];simp only[vvB,seval,ase,ai4,ai3,V.dB,e1,e2];simp only[bU,bT,vvB,seval,bW]
def aCX(p:Pos)(x:V)(g:Hp):dn kC (.func (.func 208) .nil (.cons (X p 0) .nil)) [x] g=PG [x,X p 0] g:=(rfl)
def aJI(x:V)(h:Hp):Di d! 55 x h=cO 6 x h:=kR
def aHI(a:dV h F ps A pl ib cb fb vm vl I)(G:A.Small)(hT:TopB A.boxes){w:Wr}{L:List V}(kr:Kn h ir (O w L))(hL:L[1]?=some (X ps 0)){k:Nat}{b:Bx}(hb:A.boxes[k]?=some b):
  ∃h',abN [X ir 0,iV b.id] h=D (.agg (V.ofList (gI b))) h'/\Nw h h':=by
 have hk:=hT.once k b hb;obtain⟨m,y,C,k1⟩:=mkW h (O (N 3 true) [iV b.id]);obtain⟨h2,z,E,k2⟩:=mkW m (O (N 55 true) [Y U 0,H [],Y U 0,Y U 0,Y U 0,Y U 0]);have c:=C.trans E;have Q:=(kr.nw c).ld hL;obtain⟨r,h3,e3,M,q,-⟩:=aaI (a.nw c) G;obtain⟨u,t,s⟩:=zS M (aN _) (λx=>decide (x.id=b.id)) (by have:=G.boxes;omega) (f:=.func (.func 208) .nil (.cons (X h.next 0) .nil)) (λx cs g _ Z e _=>by
  rw[show cs=gI x from e,aCX,aE9 (((k1.nw E).nw q).nw Z)];exact⟨_,rfl,Nw.new _ _⟩)
 rw[hk]at t;simp only[gB]at t;obtain⟨i,o,cs,ix,ex,-,-,-,-,ln⟩:=(M.nw (aN _) s).elt hb;obtain rfl:cs=gI b:=ex;have B:=ln u rfl;have J:=(k2.nw q).nw s;obtain⟨j,d⟩:∃j,j=u.put m.next (some (O (N 55 true) (gI b))):=⟨_,rfl⟩
 have S:aV 6 (X m.next 0) (.agg (V.ofList (gI b))) u=D V.undef j:=by rw[d];exact J.stN rfl rfl
 have k5:Kn j m.next (O (N 55 true) (gI b)):=by rw[d];exact J.put _
 have n1:=C.next;have W:Nw h j:=by rw[d];exact((c.trans q).trans s).put (by omega) _
 rw[ay1];simp only[vvB,seval,aw7,an3,an2,an1,<-y,<-z,Q,e3,t,ix,B,S];exact⟨j,by simp only[bU,bT,vvB,seval,aJI,k5.ldN (n:=6) rfl,bW],W⟩
end
end Go.Proofs.Im
namespace Go.Ln
def oL:Wds->List (List Nat)
 | .nil=> []
 | .cons _ t _ r=>t::oL r
def Il:Wds->Bool
 | .nil=>false
 | .cons k _ _ r=>decide (k=3)||Il r
def drop_zero:∀w:Wds,w.drop 0=w
 | .nil=>rfl
 | .cons _ _ _ _=>rfl
def RZ:∀w:Wds,(oL w).length=w.len
 | .nil=>rfl
 | .cons _ _ _ r=>by simp[oL,Wds.len,RZ r]
def avF:∀{w:Wds} {k:Nat} {x:Wd},w.get? k=some x->w.drop k=.cons x.kind x.text x.kids (w.drop (k+1))
 | .nil,_,_,e=>by cases e
 | .cons k t ks r,0,x,e=>by cases e;simp[Wds.drop]
 | .cons k t ks r,n+1,x,e=>by simp only[Wds.drop];exact avF (w:=r) e
def avE:∀{w:Wds} {k:Nat},w.len<=k->w.drop k=.nil
 | .nil,0,_=>rfl
 | .nil,k+1,_=>rfl
 | .cons _ _ _ _,0,h=>by simp[Wds.len]at h
 | .cons _ _ _ r,k+1,h=>by simp only[Wds.drop];exact avE (by simp[Wds.len]at h;omega)
end Go.Ln
namespace Go.Vm
def apa(t:TypeId)(z:List V)(h:Hp):eY t z h=D (X h.next 0) (h.new (O (N t true) z)):=(rfl)
def aBU{h:Hp}{i:Pos}{t:TypeId}{f:Bool}{x y z a b c:V}(d:h.get i=some (O (N t f) [x,y,z])):aV 3 (X i 0) (.agg (.cons a (.cons b (.cons c .nil)))) h=D V.undef (h.put i (some (O (N t f) [a,b,c]))):=by
 rw[CV d rfl rfl];rfl
def aCt{h:Hp}{i:Pos}{wr:Wr}{l:List V}{q:Nat}{v:V}(a:h.get i=some (O wr l))(b:l[q]?=some v):aG (X i q) h=D v h:=by rw[D8 a,b]
end Go.Vm
namespace Go.Proofs.Im
def arb(t:TypeId)(h:Hp):eY t [Y U 0,H [],.aQ] h=D (X h.next 0) (h.new (O (N t true) [Y U 0,H [],.aQ])):=(rfl)
def WS.atN{P:Pos->Prop}{h:Hp}{v:V}{ws:Wds}(t:WS P h v ws){k:Nat}{w:Wd}(e:ws.get? k=some w):
  ∃j q vk,(∀h',bD 3 v (Y U (k:Int)) h'=D (X j q) h')/\cO 3 (X j q) h=D (.agg (.cons (Y U w.kind) (.cons (H w.text) (.cons vk .nil)))) h:=by
 obtain⟨cs,o,-,i,x⟩:=t;have hk:=Wds.C9 e;obtain⟨a,b,vk,c,m⟩:=WAt.get x e;obtain⟨j,q,e1,-,-,e2⟩:=o.atN hk;refine⟨j,q,vk,e1,?_⟩;rw[e2 h rfl];obtain⟨l0,f⟩:=b!.1 a;obtain⟨l1,g⟩:=b!.1 b;obtain⟨d,l⟩:=b!.1 c;rw[e! l0,e! l1,e! d,f,g,l];rfl
def aE5(w:Wds)(n:Nat)(h:Hp)(r:V)(h':Hp):Prop:=
 Ch (λ_=>False) h h'/\((Il w=true/\r=.tuple (.cons .aQ (.cons (K false) .nil)))\/
  (Il w=false/\∃v,r=.tuple (.cons v (.cons (K (decide (w.len=n))) .nil))/\Ow 0 h' 9 1 v w.len ((oL w).map H)/\∀j,bV v=some j->h.next.nat<=j.nat))
def au9{P:Pos->Prop}{b:Nat}{h:Hp}{i:Pos}{t:TypeId}{L:List V}{s:List Nat}{vw:V}{w:Wds}{n:Nat}(d:Bd b h i 5 t L s)(h3:L[3]?=some vw)(tw:WS P h vw w)(hl:w.len<=1000000):
  ∃r h',abO [X i 0,Y U (n:Int)] h=D r h'/\aE5 w n h r h':=by
 rw[aH1];show aX d! _ (aE5 w n h) _;have R3:aG (X i 3) h=D vw h:=aCt d.get h3;simp(disch:=omega)only[vvB,seval,aIu,aBu,RD,aBs,R3,WS.len tw];refine Oc.then (dW (n:=w.len) (λm fr g=>∃(k:Nat) (c:V),fr.get (a! 1)=some (Y U (n:Int))/\fr.get (a! 6)=some c/\fr.get (a! 12)=some vw/\fr.get (a! 13)=some (Y U (w.len:Int))/\fr.get (a! 14)=some (Y U (k:Int))/\
   k+m=w.len/\Ow 0 g 9 1 c k (((oL w).take k).map H)/\(∀j,bV c=some j->h.next.nat<=j.nat)/\Il w=Il (w.drop k)/\oL w=(oL w).take k++oL (w.drop k)/\Ch (λ_=>False) h g)
  (A:=λfr g=>∃c,fr.get (a! 1)=some (Y U (n:Int))/\fr.get (a! 6)=some c/\Il w=false/\Ow 0 g 9 1 c w.len ((oL w).map H)/\(∀j,bV c=some j->h.next.nat<=j.nat)/\Ch (λ_=>False) h g)
  (B:=λfr g=>fr.get (a! 4)=some .aQ/\fr.get (a! 5)=some (K false)/\Il w=true/\Ch (λ_=>False) h g) (by rw[dP];omega) ?_ ?_) ?_ ?_
 ·exact⟨0,.aQ,qK0,qK0,qK0,qK0,qK1,by omega,by simpa using Ow.nil 0 h 9 1,λj q=>(by cases q),by rw[drop_zero],by rw[drop_zero];rfl,Ch.refl _ _⟩
 ·rintro m fr g ⟨k,c,f1,G,u,f,v,hk,z,p,y,I,a⟩;by_cases hz:m=0
  ·have Q:k=w.len:=by omega
   subst Q;rw[avE (B! _)]at y;rw[<-RZ w,E!,RZ w]at z;simp(disch:=omega)only[vvB,seval,ahK,ahJ,f,v];exact⟨rfl,c,qK2 f1,qK2 G,y,z,p,a⟩
  ·have S:k<w.len:=by omega
   obtain⟨x,hx⟩:=Wds.apx S;have aa:WS P g vw w:=tw.ch a λj _ q=>⟨q,λq=>q⟩
   obtain⟨j,q,vk,i1,i2⟩:=WS.atN aa hx;have hd:=avF hx;obtain⟨e,o⟩:∃e,e=(g.new (O (N 149 true) [Y U 0,H [],.aQ])).put g.next (some (O (N 149 true) [Y U x.kind,H x.text,vk])):=⟨_,rfl⟩
   have E:Ch (λ_=>False) g e:=by rw[o];exact ahs _ _ _
   have w2:e.get g.next=some (O (N 149 true) [Y U x.kind,H x.text,vk]):=by rw[o];exact jZ _ _ _
   have K0:aG (X g.next 0) e=D (Y U x.kind) e:=aCt w2 rfl;have K1:aG (X g.next 1) e=D (H x.text) e:=aCt w2 rfl;rw[hd]at y I;simp only[Il]at y;simp only[oL]at I;have Z:((oL w).take k).length=k:=by rw[u!,RZ];omega
   have C:(oL w).take (k+1)=(oL w).take k++ [x.text]:=by
    have:(oL w)[k]?=some x.text:=by
     rw[I,List.getElem?_append_right (by omega),Z,Nat.sub_self];rfl
    rw[List.take_add_one,this];rfl
   by_cases l:x.kind=3
   ·have J:aG (X g.next 0) e=D (Y U 3) e:=by rw[K0,l]
    simp(disch:=omega)only[vvB,seval,ahK,ahJ,aqo,aqn,aBu,u,f,v,i1,i2,arb,aBU (dU _ _),<-o,J,n!];refine⟨qK0,qK0,by rw[y,l];rfl,a.trans E λ_ _ q=>q⟩
   ·have o2:=z.ch E λ_ _ q=>q;obtain⟨v',g3,e3,rfl,o3,c3,n3⟩:=az7 (bt:=16) (new:= [H x.text]) o2 rfl (by omega);simp(disch:=omega)only[vvB,seval,ahK,ahJ,aqo,aqn,aBq,aBp,f1,G,u,f,v,i1,i2,arb,aBU (dU _ _),<-o,K0,K1,l,qI,e3];have M:Ch (λ_=>False) h g3:=by
     have ca:=a.trans E λ_ _ q=>q;exact ca.trans c3 λj hj q=>by have:=p j q;omega
    exact⟨m - 1,by omega,k+1,.slice e.next.succ 0 (k+1) (.un 1),qK2 f1,qK0,qK2 u,qK2 f,qK1,by omega,by rw[C,List.map_append];exact o3,
     λj q=>by cases q;have:=a.next;have:=E.next;rw[Pos.fA];omega,by rw[y,decide_eq_false l,Bool.false_or],by rw[C];rw[r!];exact I,M⟩
 ·rintro fr g ⟨c,f1,G,W,z,p,a⟩;have L0:aZ 2 c g=D (Y U (w.len:Int)) g:=z.sl.length;have hd:decide ((w.len:Int)=(n:Int))=decide (w.len=n):=decide_eq_decide.2 (by omega);simp(disch:=omega)only[vvB,seval,aBo,f1,G,L0,hd];exact aX.ret (qT0) ⟨a,.inr ⟨W,c,rfl,z,p⟩⟩
 ·rintro fr g ⟨f4,f5,hl,a⟩;exact aX.ret (by simp only[bT,vvB,seval,f4,f5,bW];rfl) ⟨a,.inl ⟨hl,rfl⟩⟩
end Go.Proofs.Im
namespace Go.Im
structure Sn where
 acc:Acc
 inn:Bool
 only:Bool
 cnt:Int
 vw:Option (Int×Int×List (Int×Int×Int))
abbrev anL(k:Int)(t:List Nat)(last bare part:Bool):List V:= [iV k,H t,K last,K bare,K part]
abbrev anV(k:Int)(t:List Nat)(last bare part:Bool):V:=.agg (V.ofList (anL k t last bare part))
abbrev zAn:List V:= [Y U 0,H [],K false,K false,K false]
def aQv(h:Hp):bK zAn [] h=D (anV 0 [] false false false) h:=(rfl)
def aOh(s:List Nat)(h:Hp):bK zAn [(1,1,H s),(3,1,K true)] h=D (anV 0 s false true false) h:=(rfl)
end Go.Im
namespace Go.Proofs.Im
section
variable{bb:Nat}{h h' h0:Hp}{P F I J Z S:Pos->Prop}{ps pl ib p pv ir pc im:Pos}{cb:Cap}{fb uid:Bool}{vm vl vv vw:V}{st a:Sn}{L:List V}{s:List Nat}{w:Wds}
def LX(x:V)(h:Hp):Di d! tA x h=cO 5 x h:=kR
def aaC:List (List Nat×Nat×Nat×Bool):= [
 ([99,97,112,97,98,105,108,105,116,121],57,0,false),
 ([110,111,111,112],58,0,false),
 ([108,111,103,111,117,116],59,0,false),
 ([108,111,103,105,110],60,1,false),
 ([115,101,108,101,99,116],61,2,false),
 ([101,120,97,109,105,110,101],62,2,false),
 ([99,114,101,97,116,101],63,2,false),
 ([100,101,108,101,116,101],64,2,false),
 ([114,101,110,97,109,101],65,2,false),
 ([108,105,115,116],66,2,false),
 ([115,116,97,116,117,115],67,2,false),
 ([97,112,112,101,110,100],68,2,false),
 ([99,104,101,99,107],58,3,false),
 ([99,108,111,115,101],69,3,false),
 ([101,120,112,117,110,103,101],70,3,true),
 ([115,101,97,114,99,104],71,3,true),
 ([102,101,116,99,104],72,3,true),
 ([115,116,111,114,101],73,3,true),
 ([99,111,112,121],74,3,true),
 ([109,111,118,101],75,3,true)]
def aG6(pc:Pos)(c:Nat×Nat×Bool):V:=.agg (.cons (.func (.func c.1) (.cons (X pc 0) .nil) .nil) (.cons (Y U (c.2.1:Int)) (.cons (K c.2.2) .nil)))
def gQ(pc:Pos):List (V×V):=aaC.map λc=>(H c.1,aG6 pc c.2)
def VwO(h:Hp)(J:Pos->Prop)(vv:V):Option (Int×Int×List (Int×Int×Int))->Prop
 |none=>vv=.cZ/\∀j,¬J j
 |some x=>∃pv vw m,vv=X pv 0/\VwK h J pv x.1 x.2.1 m vw/\m.map mgK=x.2.2
def VwO.ch{o:Option (Int×Int×List (Int×Int×Int))}(x:VwO h J vv o)(c:Ch S h h')(d:∀j,J j->¬S j):VwO h' J vv o:=by
 cases o with
 |none=>exact x
 |some o=>obtain⟨pv,vw,m,e,k,b⟩:=x;exact⟨pv,vw,m,e,k.ch c d,b⟩
def VwO.lt{o:Option (Int×Int×List (Int×Int×Int))}(x:VwO h J vv o):∀j,J j->j.nat<h.next.nat:=by
 cases o with
 |none=>exact λj q=>(x.2 j q).elim
 |some o=>obtain⟨pv,vw,m,e,k,b⟩:=x;exact k.lt
abbrev Ft(F J:Pos->Prop)(pc im:Pos):Pos->Prop:=λj=>F j\/J j\/j=pc\/j=im
structure World (h:Hp) (pc im ps:Pos) (st:Sn) (F J:Pos->Prop) (pl ib:Pos) (cb:Cap) (fb:Bool) (vm vl vv:V) (I:Pos->Prop):Prop where
 acc:dV h F ps st.acc pl ib cb fb vm vl I
 con:Kn h pc (O (N tCn true) [K st.inn,vv,K st.only,iV st.cnt,.map im])
 map:Kn h im (.map (gQ pc))
 view:VwO h J vv st.vw
 ne:pc≠im
 fj:∀j,F j->¬J j/\j≠pc/\j≠im
 jn:∀j,J j->j≠pc/\j≠im
def World.ch(x:World h pc im ps st F J pl ib cb fb vm vl vv I)(c:Ch S h h')(b:∀j,Ft F J pc im j->¬S j):World h' pc im ps st F J pl ib cb fb vm vl vv I where
 acc:=x.acc.ch c λj f=>b j (.inl f)
 con:=x.con.ch c (b _ (.inr (.inr (.inl rfl))))
 map:=x.map.ch c (b _ (.inr (.inr (.inr rfl))))
 view:=x.view.ch c λj f=>b j (.inr (.inl f))
 ne:=x.ne
 fj:=x.fj
 jn:=x.jn
def World.lt(x:World h pc im ps st F J pl ib cb fb vm vl vv I):∀j,Ft F J pc im j->j.nat<h.next.nat:=λj q=>by
 rcases q with q|q|rfl|rfl
 ·exact x.acc.lt j q
 ·exact x.view.lt j q
 ·exact x.con.2
 ·exact x.map.2
def World.amF(x:World h pc im ps st F J pl ib cb fb vm vl vv I){d:Pos->Prop}{b:V}(g:a.acc=st.acc)(i:VwO h d b a.vw)(hj:∀j,d j->¬F j/\j≠pc/\j≠im):
  World (h.put pc (some (O (N tCn true) [K a.inn,b,K a.only,iV a.cnt,.map im]))) pc im ps a F d pl ib cb fb vm vl b I:=by
 have c:Ch (λj=>j=pc) h (h.put pc (some (O (N tCn true) [K a.inn,b,K a.only,iV a.cnt,.map im]))):=Ch.put _ _ rfl;refine⟨?_,x.con.put _,x.map.ch c λe=>x.ne e.symm,i.ch c λj q=>(hj j q).2.1,x.ne,λj f=>⟨λq=>(hj j q).1 f,(x.fj j f).2⟩,λj q=>(hj j q).2⟩;rw[g];exact x.acc.ch c λj f=>(x.fj j f).2.1
structure Rq (bb:Nat) (h0:Hp) (Z:Pos->Prop) (h:Hp) (pc im ps ir:Pos) (uid:Bool) (w:Wds) (s:List Nat) (st:Sn) (L:List V) (vw:V) (P F J:Pos->Prop) (pl ib:Pos) (cb:Cap) (fb:Bool) (vm vl vv:V) (I:Pos->Prop):Prop where
 bd:Bd bb h ir 5 143 L s
 hbb:bb<=h0.next.nat
 ob:∀j,OfB ir 5 L j->Z j\/h0.next.nat<=j.nat
 l1:L[1]?=some (X ps 0)
 l3:L[3]?=some vw
 l4:L[4]?=some (K uid)
 l0:L[0]?=some (X pc 0)
 ws:WS P h vw w
 wd:World h pc im ps st F J pl ib cb fb vm vl vv I
 dis:∀j,OfB ir 5 L j->¬Ft F J pc im j
 old:∀j,P j->j.nat<bb/\¬Z j
 foot:∀j,Ft F J pc im j->Z j\/h0.next.nat<=j.nat
 chz:Ch Z h0 h
def DL(bb:Nat)(h0:Hp)(Z:Pos->Prop)(vw:V)(P:Pos->Prop)(h:Hp)(pc im ps ir:Pos)(uid:Bool)(w:Wds)(s:List Nat)(st:Sn):Prop:=
 ∃L F J pl ib cb fb vm vl vv I,Rq bb h0 Z h pc im ps ir uid w s st L vw P F J pl ib cb fb vm vl vv I
def Rq.mk'(q:Rq bb h0 Z h pc im ps ir uid w s st L vw P F J pl ib cb fb vm vl vv I):DL bb h0 Z vw P h pc im ps ir uid w s st:=⟨_,_,_,_,_,_,_,_,_,_,_,q⟩
def Rq.nw(q:Rq bb h0 Z h pc im ps ir uid w s st L vw P F J pl ib cb fb vm vl vv I)(c:Nw h h'):Rq bb h0 Z h' pc im ps ir uid w s st L vw P F J pl ib cb fb vm vl vv I where
 bd:=q.bd.ch c λ_ _ _ q=>q
 l0:=q.l0
 l1:=q.l1
 l3:=q.l3
 l4:=q.l4
 ws:=q.ws.ch c λj _ q=>⟨q,λq=>q⟩
 wd:=q.wd.ch c λ_ _ q=>q
 dis:=q.dis
 old:=q.old
 hbb:=q.hbb
 ob:=q.ob
 foot:=q.foot
 chz:=q.chz.nw c
def Rq.kr(q:Rq bb h0 Z h pc im ps ir uid w s st L vw P F J pl ib cb fb vm vl vv I):Kn h ir (O (N 143 true) L):=⟨q.bd.get,q.bd.hi⟩
def Rq.turn(q:Rq bb h0 Z h pc im ps ir uid w s st L vw P F J pl ib cb fb vm vl vv I){n r I':Pos->Prop}{g f:Pos}{b:Cap}{d:Bool}{k i m:V}(u:World h' pc im ps a n r g f b d k i m I')(c:Ch S h h')
  (t:∀j,S j->Ft F J pc im j) (v:∀j,Ft n r pc im j->Ft F J pc im j\/h.next.nat<=j.nat):Rq bb h0 Z h' pc im ps ir uid w s a L vw P n r g f b d k i m I' where
 bd:=q.bd.chO c λj o e=>q.dis j o (t j e)
 l0:=q.l0
 l1:=q.l1
 l3:=q.l3
 l4:=q.l4
 ws:=q.ws.ch c λj _ p=>⟨p,λe=>by
  have:=q.old j p;rcases q.foot j (t j e) with z|z
  ·exact this.2 z
  ·have:=q.hbb;omega⟩
 wd:=u
 dis:=λj o e=>(v j e).elim (q.dis j o) λl=>by have:=(o.from q.bd _).2;omega
 old:=q.old
 hbb:=q.hbb
 ob:=q.ob
 foot:=λj e=>(v j e).elim (q.foot j) λl=>.inr (y! q.chz.next l)
 chz:=q.chz.trans c λj hj e=>(q.foot j (t j e)).resolve_right (by omega)
def Rq.say(q:Rq bb h0 Z h pc im ps ir uid w s st L vw P F J pl ib cb fb vm vl vv I){el:TypeId}(l:List (List Nat)){n:Nat}(hn:l.length=n)(hl:n<=100)(ht:fV l<=100000000)(hb:∀t∈l,∀c∈t,c<256)(hj:n<=1\/dN [32] l≠ [])(k:s.length+(dN [32] l).length+2<=1000000000):
  ∃r h' d,wu [X ir 0,.slice h.next 0 n (.kn n)] (h.new (O (N el true) (l.map H)))=D r h'/\Rq bb h0 Z h' pc im ps ir uid w (s++(dN [32] l++ [13,10])) st d vw P F J pl ib cb fb vm vl vv I/\Stp (OfB ir 5 L) h (OfB ir 5 d) h':=by
 obtain⟨r,h',d,e,i,b,g,m⟩:=azj (el:=el) q.bd l hn hl ht hb hj k;refine⟨r,h',d,e,⟨i,q.hbb,λj o=>(b.sub j o).elim (q.ob j) λl=>.inr (y! q.chz.next l),by rw[g 1 (by omega) (by omega)];exact q.l1,by rw[g 3 (by omega) (by omega)];exact q.l3,by rw[g 4 (by omega) (by omega)];exact q.l4,by rw[g 0 (by omega) (by omega)];exact q.l0,?_,q.wd.ch b.ch λj f o=>q.dis j o f,?_,q.old,q.foot,?_⟩,b⟩
 ·exact q.ws.ch b.ch λj _ p=>⟨p,λo=>by have:=(q.old j p).1;have:=(o.from q.bd _).1;omega⟩
 ·intro j o f;rcases b.sub j o with o|o
  ·exact q.dis j o f
  ·have:=q.wd.lt j f;omega
 ·exact q.chz.trans b.ch λj hj o=>(q.ob j o).resolve_right (by omega)
def Rq.aDU(q:Rq bb h0 Z h pc im ps ir uid w s st L vw P F J pl ib cb fb vm vl vv I):Rq bb h (λj=>Ft F J pc im j\/OfB ir 5 L j) h pc im ps ir uid w s st L vw P F J pl ib cb fb vm vl vv I where
 bd:=q.bd
 hbb:=y! q.hbb q.chz.next
 ob:=λj o=>.inl (.inr o)
 l0:=q.l0
 l1:=q.l1
 l3:=q.l3
 l4:=q.l4
 ws:=q.ws
 wd:=q.wd
 dis:=q.dis
 old:=λj p=>⟨(q.old j p).1,λe=>e.elim (λf=>(q.foot j f).elim (q.old j p).2 λl=>by have:=(q.old j p).1;have:=q.hbb;omega) λo=>by have:=(q.old j p).1;have:=(o.from q.bd _).1;omega⟩
 foot:=λj f=>.inl (.inl f)
 chz:=Ch.refl _ _
def Rq.comp(q:Rq bb h0 Z h pc im ps ir uid w s st L vw P F J pl ib cb fb vm vl vv I){g:Hp}{b:Bool}{u:Wds}{s2:List Nat}{st2:Sn}(r:DL bb h (λj=>Ft F J pc im j\/OfB ir 5 L j) vw P g pc im ps ir b u s2 st2):
  DL bb h0 Z vw P g pc im ps ir b u s2 st2/\Ch (λj=>Ft F J pc im j\/OfB ir 5 L j) h g:=by
 obtain⟨y,v,x,l,k,c,d,n,m,t,I',r⟩:=r;have i:∀j,(Ft F J pc im j\/OfB ir 5 L j)\/h.next.nat<=j.nat->Z j\/h0.next.nat<=j.nat:=λj e=>by
  rcases e with(e|e)|e
  ·exact q.foot j e
  ·exact q.ob j e
  ·have:=q.chz.next;exact .inr (by omega)
 exact⟨⟨y,v,x,l,k,c,d,n,m,t,I',
  {bd:=r.bd
   hbb:=q.hbb
   ob:=λj o=>i j (r.ob j o)
   l0:=r.l0
   l1:=r.l1
   l3:=r.l3
   l4:=r.l4
   ws:=r.ws
   wd:=r.wd
   dis:=r.dis
   old:=q.old
   foot:=λj f=>i j (r.foot j f)
   chz:=q.chz.trans r.chz λj hj e=>(i j (.inl e)).resolve_right (by omega)}⟩,r.chz⟩
end
end Go.Proofs.Im
namespace Go.Im
def XZ(t:TypeId)(a b c:List Nat)(h:Hp):bP t [H [],H [],H []] 3 [(0,1,H a),(1,1,H b),(2,1,H c)] h=D (.slice h.next 0 3 (.kn 3)) (h.new (O (N t true) [H a,H b,H c])):=(rfl)
def mJ{n:Nat}(hn:n<100):(eX n).length<=2/\(∀c∈eX n,c<256)/\eX n≠ []:=by
 unfold eX;split
 ·rename_i h;have:n<10:=by simpa[Nat.blt_eq]using h
  exact⟨by simp,by simp;omega,by simp⟩
 ·exact⟨by simp,by simp;omega,by simp⟩
def lineS(l:List (List Nat)):List Nat:=dN [32] l++ [13,10]
abbrev avx:List Nat:= [42,32,70,76,65,71,83,32,40,92,65,110,115,119,101,114,101,100,32,92,70,108,97,103,103,101,100,32,92,68,101,108,101,116,101,100,32,92,83,101,101,110,32,92,68,114,97,102,116,41]
abbrev aht:List Nat:= [69,88,73,83,84,83]
abbrev ao1:List Nat:= [42,32,48,32,82,69,67,69,78,84]
abbrev ael:List Nat:= [42,32,79,75,32,91,85,73,68,86,65,76,73,68,73,84,89,32]
abbrev amk:List Nat:= [42,32,79,75,32,91,85,73,68,78,69,88,84,32]
abbrev avb:List Nat:= [42,32,79,75,32,91,72,73,71,72,69,83,84,77,79,68,83,69,81,32]
abbrev roS:List Nat:= [82,69,65,68,45,79,78,76,89]
abbrev rwS:List Nat:= [82,69,65,68,45,87,82,73,84,69]
def qJ(n:Nat)(valid next clock:Int):List Nat:=
 lineS [avx]++(lineS [[42],eX n,aht]++(lineS [ao1]++(lineS [ael++eX valid.toNat++ [93]]++(lineS [amk++eX next.toNat++ [93]]++lineS [avb++eX clock.toNat++ [93]]))))
def gu(A:Acc)(box:Int):Int×Int×List (Int×Int×Int):=(box,ae0 (Wn A.mails box),(Wn A.mails box).map thK)
structure CanBox (A:Acc) (k:Nat) (b:Bx):Prop where
 small:A.Small
 top:TopB A.boxes
 at_:A.boxes[k]?=some b
 named:vK A.boxes jc=some b
 sorted:(Wn A.mails b.id).Pairwise λx y=>x.1<y.1
 few:(Wn A.mails b.id).length<50
 valid:0<=b.valid/\b.valid<100
 next:0<=b.next/\b.next<100
 clock:A.clock<100
def CanBox.has{A:Acc}{k:Nat}{b:Bx}(c:CanBox A k b):(A.boxes.any λx=>decide (x.id=b.id))=true:=
 List.any_eq_true.2 ⟨b,o! c.at_,decide_eq_true rfl⟩
end Go.Im
namespace Go.Proofs.Im
section
variable{h h' g h0:Hp}{P F I J Z S:Pos->Prop}{ps pl ib p pv ir pc im a0:Pos}{cb:Cap}{fb uid only:Bool}{v vm vl vv vw:V}{st:Sn}{L:List V}{s:List Nat}{w:Wds}{o:Ob}{k:Nat}{b:Bx}{bb:Nat}
def keepA{L a:List V}(c:Stp (OfB ir 5 L) h (OfB ir 5 a) h')(d:Kn h a0 o)(e:¬OfB ir 5 L a0):Kn h' a0 o/\¬OfB ir 5 a a0:=
 ⟨d.ch c.ch e,λo=>(c.sub _ o).elim e λl=>by have:=d.2;omega⟩
def Rq.atv(q:Rq bb h0 Z h pc im ps ir uid w s st L vw P F J pl ib cb fb vm vl vv I)(c:Ch (λj=>j=a0) h h')(d:¬OfB ir 5 L a0)(i:¬Ft F J pc im a0)(hb:h0.next.nat<=a0.nat):Rq bb h0 Z h' pc im ps ir uid w s st L vw P F J pl ib cb fb vm vl vv I where
 bd:=q.bd.chO c λj o e=>d (e▸o)
 l0:=q.l0
 l1:=q.l1
 l3:=q.l3
 l4:=q.l4
 ws:=q.ws.ch c λj _ p=>⟨p,λe=>by have a:=(q.old j p).1;have l:=q.hbb;rw[e]at a;omega⟩
 wd:=q.wd.ch c λj f e=>i (e▸f)
 dis:=q.dis
 old:=q.old
 hbb:=q.hbb
 ob:=q.ob
 foot:=q.foot
 chz:=q.chz.trans c λj hj e=>by rw[e]at hj;omega
def aFT(q:Rq bb h0 Z h pc im ps ir uid w s st L vw P F J pl ib cb fb vm vl vv I)(only:Bool)(bm:w.len=1)(ca:oL w= [jc])(b9:Il w=false)(C:CanBox st.acc k b)(cy:s.length<=100000):
  ∃h',ET [X pc 0,X ir 0,K only] h=D (anV 0 (if only=true then roS else rwS) false true false) h'/\
   DL bb h0 Z vw P h' pc im ps ir uid w (s++qJ (Wn st.acc.mails b.id).length b.valid b.next st.acc.clock) {st with only:=only,vw:=some (gu st.acc b.id)}:=by
 obtain⟨h1,bh,c1,k1⟩:=mkW h (O (N tA true) zAn);have q1:=q.nw c1;have cl:¬OfB ir 5 L h.next:=λo=>by have:=(o.from q.bd _).2;omega
 have aE:¬Ft F J pc im h.next:=λo=>by have:=q.wd.lt _ o;omega
 have e2:=au9 (n:=1) q1.bd q1.l3 q1.ws (by omega);obtain⟨r2,h2,e2,c2,hN⟩:=e2;have be:abO [X ir 0,Y U 1] h1=D r2 h2:=e2;obtain⟨v,rfl,ov,az⟩:∃v,r2=.tuple (.cons v (.cons (K true) .nil))/\Ow 0 h2 9 1 v 1 ([jc].map H)/\∀j,bV v=some j->h1.next.nat<=j.nat:=by
  rcases hN with⟨hL,-⟩|⟨-,v,rfl,ov,az⟩
  ·rw[b9]at hL;cases hL
  ·rw[bm,ca]at ov;exact⟨v,by rw[decide_eq_true bm],ov,az⟩
 obtain⟨iv,fv,hv,kv,cP⟩:∃iv fv,v=.slice iv 0 1 (.un 1)/\Kn h2 iv (O (N 9 fv) [H jc])/\h1.next.nat<=iv.nat:=by
  rcases ov.is with⟨h0,_⟩|⟨i,e,hb,hi,f,hg⟩
  ·omega
  ·exact⟨i,f,e,⟨hg,hi⟩,az i (by rw[e];rfl)⟩
 have ix:∀g,bD 1 v (Y U 0) g=D (X iv 0) g:=λg=>by rw[hv];rfl
 have am:Nw h1 h2:=c2;have q2:=q1.nw am;have k2:=k1.nw am;have n1:=c1.next;have n2:=am.next;have aB:=q.wd.con.2;have cN:=q.wd.map.2;obtain⟨d,z⟩:∃d,d=({st with only:=false,vw:=none}:Sn):=⟨_,rfl⟩
 have S3:=q2.wd.con.st (q:=1) (y:=.cZ) ⟨rfl,rfl⟩ (by simp);have ba:aV 1 (X pc 1) .cZ h2=D V.undef (h2.put pc (some (O (N tCn true) [K st.inn,.cZ,K st.only,iV st.cnt,.map im]))):=S3;obtain⟨h4,ax⟩:∃h4,h4=h2.put pc (some (O (N tCn true) [K d.inn,.cZ,K d.only,iV d.cnt,.map im])):=⟨_,rfl⟩
 have S4:aV 1 (X pc 2) (K false) (h2.put pc (some (O (N tCn true) [K st.inn,.cZ,K st.only,iV st.cnt,.map im])))=D V.undef h4:=by
  rw[(q2.wd.con.put (O (N tCn true) [K st.inn,.cZ,K st.only,iV st.cnt,.map im])).st (q:=2) (y:=K false) ⟨rfl,rfl⟩ (by simp),ao2,ax,z];rfl
 have w4:World h4 pc im ps d F (λ_=>False) pl ib cb fb vm vl .cZ I:=by
  rw[ax];exact q2.wd.amF (by rw[z]) (by rw[z];exact⟨rfl,λ_ q=>q⟩) λ_ q=>q.elim
 have c4:Ch (λj=>j=pc) h2 h4:=by rw[ax];exact Ch.put _ _ rfl
 have q4:=q2.turn w4 c4 (λj e=>.inr (.inr (.inl e))) λj f=>by
  rcases f with f|f|f|f
  ·exact .inl (.inl f)
  ·exact f.elim
  ·exact .inl (.inr (.inr (.inl f)))
  ·exact .inl (.inr (.inr (.inr f)))
 have n4:=c4.next;have k4:=k2.ch c4 λe=>by rw[<-e]at aB;omega
 have cj:=kv.ch c4 λe=>by rw[<-e]at aB;omega
 have a:d.acc=st.acc:=by rw[z]
 have V4:=cj.ld (q:=0) (x:=H jc) rfl;have R1:∀{h:Hp} {s:List Nat} {st:Sn} {L:List V} {F J I:Pos->Prop} {pl ib:Pos} {cb:Cap} {fb:Bool} {vm vl vv:V},Rq bb h0 Z h pc im ps ir uid w s st L vw P F J pl ib cb fb vm vl vv I->aG (X ir 1) h=D (X ps 0) h:=λq=>q.kr.ld q.l1;obtain⟨h5,e5,c5⟩:=aE8 q4.wd.acc (by rw[a];exact C.small) (by rw[a];exact C.top) q4.kr q4.l1 (by rw[a];exact C.named);have q5:=q4.nw c5;have k5:=k4.nw c5;have n5:=c5.next;obtain⟨pv,h6,cw,l6,e6,vg,c6,bj⟩:=aHo q5.wd.acc (by rw[a];exact C.small) (box:=b.id) (by rw[a];exact C.sorted) (by rw[a];exact C.few) (by rw[a];exact C.has);rw[a]at vg bj;have n6:=c6.next;obtain⟨E,r⟩:∃E,E=({st with only:=only,vw:=some (gu st.acc b.id)}:Sn):=⟨_,rfl⟩
 have w6:=q5.wd.ch c6 λ_ _ q=>q;have S7:aV 1 (X pc 1) (X pv 0) h6=D V.undef (h6.put pc (some (O (N tCn true) [K d.inn,X pv 0,K d.only,iV d.cnt,.map im]))):=w6.con.st (q:=1) (y:=X pv 0) ⟨rfl,rfl⟩ (by simp);obtain⟨h8,ay⟩:∃h8,h8=h6.put pc (some (O (N tCn true) [K E.inn,X pv 0,K E.only,iV E.cnt,.map im])):=⟨_,rfl⟩
 have S8:aV 1 (X pc 2) (K only) (h6.put pc (some (O (N tCn true) [K d.inn,X pv 0,K d.only,iV d.cnt,.map im])))=D V.undef h8:=by
  rw[(w6.con.put (O (N tCn true) [K d.inn,X pv 0,K d.only,iV d.cnt,.map im])).st (q:=2) (y:=K only) ⟨rfl,rfl⟩ (by simp),ao2,ay,r,z];rfl
 have b8:=vg.vwr;have w8:World h8 pc im ps E F (λj=>h5.next.nat<=j.nat/\j.nat<h6.next.nat) pl ib cb fb vm vl (X pv 0) I:=by
  rw[ay];exact w6.amF (by rw[r,a]) (by rw[r];exact⟨pv,cw,l6,rfl,b8,bj⟩) λj q=>⟨λf=>by have:=q5.wd.acc.lt j f;omega,λe=>by rw[e]at q;omega,λe=>by rw[e]at q;omega⟩
 have ao:Ch (λj=>j=pc) h5 h8:=by rw[ay];exact c6.ch.trans (Ch.put (S:=λj=>j=pc) _ _ rfl) λ_ _ q=>q
 have q8:=q5.turn w8 ao (λj e=>.inr (.inr (.inl e))) λj f=>by
  rcases f with f|f|f|f
  ·exact .inl (.inl f)
  ·exact .inr f.1
  ·exact .inl (.inr (.inr (.inl f)))
  ·exact .inl (.inr (.inr (.inr f)))
 have k8:=k5.ch ao λe=>by rw[<-e]at aB;omega
 have u:E.acc=st.acc:=by rw[r]
 have n8:=ao.next;obtain⟨h9,e9,c9⟩:=aHI q8.wd.acc (by rw[u];exact C.small) (by rw[u];exact C.top) q8.kr q8.l1 (by rw[u];exact C.at_);obtain⟨cH,bi,ak,bo⟩:=mkW h9 (O (N 55 true) (gI b));have a9:=mkT 6 [Y U 0,H [],Y U 0,Y U 0,Y U 0,Y U 0] bi;have cp:=(q8.nw c9).nw ak;have cc:=(k8.nw c9).nw ak;have n9:=c9.next;have cQ:=ak.next;have bz:¬OfB ir 5 L h9.next:=λo=>by have:=(o.from (q8.nw c9).bd _).2;omega
 obtain⟨cT,cI,cB,ap,aL,bM⟩:=cp.say (el:=9) [avx] (n:=1) rfl (by omega) (by decide) (by decide) (.inl (by omega)) (by simp[dN];omega);simp only[g!,k!]at ap;obtain⟨cd,bs⟩:=keepA bM cc cl;obtain⟨bp,bA⟩:=keepA bM bo bz;have W:=aL.wd.view;rw[r]at W;obtain⟨cR,cA,ck,b7,bS,bk⟩:=W;cases b7;have a8:=aL.wd.con.ld (q:=1) (x:=X pv 0) rfl;have b6:ck.length=(Wn st.acc.mails b.id).length:=by have:=congrArg G! bk;simpa[gu]using this
 have cx:=C.few;obtain⟨cS,b4,bc,cm,al⟩:=aff bS (by omega);have a4:=ae6 (n:=(Wn st.acc.mails b.id).length) (by omega);have aD:=cm.len b4;rw[j!,b6]at aD;have cq:=aL.nw al;have b0:=mJ (n:=(Wn st.acc.mails b.id).length) (by omega);obtain⟨cU,cJ,cC,aq,cr,bN⟩:=cq.say (el:=9) [[42],eX (Wn st.acc.mails b.id).length,aht] (n:=3) rfl (by omega) (by simp[fV];omega) (by
  intro t ht;simp at ht;rcases ht with rfl|rfl|rfl
  ·decide
  ·exact b0.2.1
  ·decide) (.inr (by simp[dN])) (by simp[dN];omega)
 simp only[g!,k!]at aq;obtain⟨ce,bt⟩:=keepA bN (cd.nw al) bs;obtain⟨bq,bB⟩:=keepA bN (bp.nw al) bA;obtain⟨cV,cK,cD,ar,cs,bO⟩:=cr.say (el:=9) [ao1] (n:=1) rfl (by omega) (by decide) (by decide) (.inl (by omega)) (by simp[dN];omega);simp only[g!,k!]at ar;obtain⟨cf,bu⟩:=keepA bO ce bt;obtain⟨ah,bE⟩:=keepA bO bq bB;have ag:=C.valid;have bl:=C.next;have b5:=C.clock;have bg:=C.small.clock;have a5:=ahx ag.1 ag.2;have a2:=ah.ld (q:=3) (x:=iV b.valid) rfl;have b1:=mJ (n:=b.valid.toNat) (by omega);have Sa:∀(x y:List Nat) (g:Hp),x.length+y.length<1000->aJ .add .none (H x) (H y) g=D (H (x++y)) g:=λx y g hl=>dX (by omega);have aM:=λg=>Sa ael (eX b.valid.toNat) g (by simp;omega);have ad:=λg=>Sa (ael++eX b.valid.toNat) [93] g (by simp;omega);obtain⟨cW,cL,cE,au,ct,bR⟩:=cs.say (el:=9) [ael++eX b.valid.toNat++ [93]] (n:=1) rfl (by omega) (by simp[fV];omega) (by
  intro t ht;simp only[p!]at ht;subst ht;intro c m;rw[h!,h!]at m;rcases m with(m|m)|m
  ·revert c;decide
  ·exact b1.2.1 c m
  ·revert c;decide) (.inl (by omega)) (by simp[dN];omega)
 simp only[g!,k!]at au;obtain⟨cg,bv⟩:=keepA bR cf bu;obtain⟨br,cz⟩:=keepA bR ah bE;have a6:=ahx bl.1 bl.2;have a3:=br.ld (q:=4) (x:=iV b.next) rfl;have b2:=mJ (n:=b.next.toNat) (by omega);have aR:=λg=>Sa amk (eX b.next.toNat) g (by simp;omega);have ae:=λg=>Sa (amk++eX b.next.toNat) [93] g (by simp;omega);obtain⟨cX,cM,cF,av,ac,cn⟩:=ct.say (el:=9) [amk++eX b.next.toNat++ [93]] (n:=1) rfl (by omega) (by simp[fV];omega) (by
  intro t ht;simp only[p!]at ht;subst ht;intro c m;rw[h!,h!]at m;rcases m with(m|m)|m
  ·revert c;decide
  ·exact b2.2.1 c m
  ·revert c;decide) (.inl (by omega)) (by simp[dN];omega)
 simp only[g!,k!]at av;obtain⟨ci,bw⟩:=keepA cn cg bv;have a7:=ahx bg.1 b5;have aj:=amV ac.wd.acc;rw[u]at aj;have b3:=mJ (n:=st.acc.clock.toNat) (by omega);have a1:=λg=>Sa avb (eX st.acc.clock.toNat) g (by simp;omega);have af:=λg=>Sa (avb++eX st.acc.clock.toNat) [93] g (by simp;omega);obtain⟨cY,B,cG,aw,cu,co⟩:=ac.say (el:=9) [avb++eX st.acc.clock.toNat++ [93]] (n:=1) rfl (by omega) (by simp[fV];omega) (by
  intro t ht;simp only[p!]at ht;subst ht;intro c m;rw[h!,h!]at m;rcases m with(m|m)|m
  ·revert c;decide
  ·exact b3.2.1 c m
  ·revert c;decide) (.inl (by omega)) (by simp[dN];omega)
 simp only[g!,k!]at aw;obtain⟨bn,bx⟩:=keepA co ci bw;obtain⟨an,M⟩:∃an,an=anL 0 (if only=true then roS else rwS) false true false:=⟨_,rfl⟩
 obtain⟨l,Q⟩:∃l,l=B.put h.next (some (O (N tA true) an)):=⟨_,rfl⟩
 have aa:aV 5 (X h.next 0) (.agg (V.ofList an)) B=D V.undef l:=by rw[Q];exact bn.stN (by rw[M];rfl) rfl
 have ab:Kn l h.next (O (N tA true) an):=by rw[Q];exact bn.put _
 have bX:Ch (λj=>j=h.next) B l:=by rw[Q];exact Ch.put _ _ rfl
 have bf:h0.next.nat<=h.next.nat:=q.chz.next;have bL:¬Ft F (λj=>h5.next.nat<=j.nat/\j.nat<h6.next.nat) pc im h.next:=λf=>by
  rcases f with f|f|f|f
  ·exact aE (.inl f)
  ·have:=k1.2;omega
  ·exact aE (.inr (.inr (.inl f)))
  ·exact aE (.inr (.inr (.inr f)))
 have cv:=cu.atv bX bx bL bf;have fin:DL bb h0 Z vw P l pc im ps ir uid w (s++qJ (Wn st.acc.mails b.id).length b.valid b.next st.acc.clock) {st with only:=only,vw:=some (gu st.acc b.id)}:=by
  have:=cv.mk';rw[r]at this;have ht:s++qJ (Wn st.acc.mails b.id).length b.valid b.next st.acc.clock=(((((s++(dN [32] [avx]++ [13,10]))++(dN [32] [[42],eX (Wn st.acc.mails b.id).length,aht]++ [13,10]))++(dN [32] [ao1]++ [13,10]))++(dN [32] [ael++eX b.valid.toNat++ [93]]++ [13,10]))++(dN [32] [amk++eX b.next.toNat++ [93]]++ [13,10]))++(dN [32] [avb++eX st.acc.clock.toNat++ [93]]++ [13,10]):=by
   simp only[qJ,lineS,r!]
  rw[ht];exact this
 rw[aqQ];cases only with
 |true=>
  have ai:=aOh roS B;have G:aV 5 (X h.next 0) (anV 0 roS false true false) B=D V.undef l:=by rw[M]at aa;exact aa
  simp(disch:=omega)only[vvB,seval,XC,QX,QW,QV,QU,QT,QS,QO,QN,NH,NG,NE,ND,Nz,Ny,Nv,Nu,Zf,
   <-bh,be,ba,S4,ix,V4,e5,R1 q5,e6,S7,S8,e9,a9,qI,XZ,ap,a8,bc,aD,a4,aq,ar,a2,a5,aM,ad,au,a3,a6,aR,ae,av,R1 ac,aj,a7,a1,af,aw,ai,G]
  exact⟨l,by rw[M]at ab;simp only[bU,bT,vvB,seval,LX,ab.ldN (n:=5) rfl,bW],fin⟩
 |false=>
  have ai:=aOh rwS B;have G:aV 5 (X h.next 0) (anV 0 rwS false true false) B=D V.undef l:=by rw[M]at aa;exact aa
  simp(disch:=omega)only[vvB,seval,XC,QX,QW,QV,QU,QT,QS,QO,QN,NH,NG,NE,ND,Nz,Ny,Nv,Nu,Ze,
   <-bh,be,ba,S4,ix,V4,e5,R1 q5,e6,S7,S8,e9,a9,qI,XZ,ap,a8,bc,aD,a4,aq,ar,a2,a5,aM,ad,au,a3,a6,aR,ae,av,R1 ac,aj,a7,a1,af,aw,ai,G]
  exact⟨l,by rw[M]at ab;simp only[bU,bT,vvB,seval,LX,ab.ldN (n:=5) rfl,bW],fin⟩
end
end Go.Proofs.Im
namespace Go.Im
def msC(x:Int×Int×Ml)(vk vs:V):List V:=iV x.1::iV x.2.1::dL x.2.2 vk vs
def msE:El (Int×Int×Ml):=λP h x cs=>∃vk vs,cs=msC x vk vs/\Rws P (flat jT) 1 h vk x.2.2.keys/\Rws P (flat dK) 2 h vs x.2.2.mem
def xU:msE.Stable:=λ⟨vk,vm,e,a,b⟩ c d=>⟨vk,vm,e,a.ch (aN _) c d,b.ch (aN _) c d⟩
def CX(a:List Ml)(box:Int)(i:Nat)(x:Int×Int×Int):List (Int×Int×Ml):=
 match a.find? λm=>decide (m.id=x.2.1) with
 |some m=>if m.mem.any (λy=>decide ((box,x.1)=y)) then [((i:Int)+1,x.1,m)] else []
 |none=> []
def fE(a:List Ml)(box:Int):Nat->List (Int×Int×Int)->List (Int×Int×Ml)
 |_,[]=> []
 |i,x::l=>CX a box i x++fE a box (i+1) l
def aeS(a:List Ml)(box:Int):∀(l m:List (Int×Int×Int)) (i:Nat),fE a box i (l++m)=fE a box i l++fE a box (i+l.length) m
 | [],m,i=>by simp[fE]
 |x::l,m,i=>by
  simp only[List.cons_append,fE,v!,r!];rw[aeS a box l m (i+1),show i+1+l.length=i+(l.length+1) by omega]
def arl(a:List Ml)(box:Int):∀(l:List (Int×Int×Int)) (i:Nat),(fE a box i l).length<=l.length
 | [],i=>by simp[fE]
 |x::l,i=>by
  simp only[fE,C!,v!];have:=arl a box l (i+1);have:(CX a box i x).length<=1:=by
   unfold CX;split
   ·split<;>simp
   ·simp
  omega
def akN{α:Type}{f:α->Bool}:∀{l:List α},l.find? f=(match l.findIdx? f with|some k=>l[k]?|none=>none)
 | []=>rfl
 |a::l=>by
  rw[List.find?_cons,List.findIdx?_cons];by_cases h:f a=true
  ·simp[h]
  ·rw[akN (l:=l)];simp only[h,Bool.false_eq_true,↓reduceIte];cases l.findIdx? f<;>simp
end Go.Im
namespace Go.Proofs.Im
section
variable{h h' g:Hp}{F I J:Pos->Prop}{ps pl ib p pv pc:Pos}{A:Acc}{cb:Cap}{fb uid only:Bool}{v vm vl vw:V}{box had:Int}{m:List Mg}
abbrev zMs:List V:= [Y U 0,Y U 0,Y U 0,Y U 0,H [],Y U 0,.aQ,.aQ,Y U 0,Y U 0]
def bMs(x:Int×Int×Ml)(vk vs:V)(h:Hp):bK zMs [(0,1,iV x.1),(1,1,iV x.2.1),(2,8,.agg (V.ofList (dL x.2.2 vk vs)))] h=D (.agg (V.ofList (msC x vk vs))) h:=(rfl)
def aQy(x:Int×Int×Ml)(vk vs:V):eH tMs zMs 1 [(0,10,.agg (V.ofList (msC x vk vs)))]=some (O (N tMs true) (msC x vk vs),λp=>.slice p 0 1 (.kn 1)):=(rfl)
def bMb(x y:Int)(h:Hp):bK [Y U 0,Y U 0] [(0,1,iV x),(1,1,iV y)] h=D (.agg (V.ofList (dK (x,y)))) h:=(rfl)
def aqi{m:Ml}{vk vm:V}{p:Pos}{n:Int}{w:Wr}(k:Kn g p (O w [iV n])):wR [.agg (V.ofList (dL m vk vm)),X p 0] g=D (K (decide (m.id=n))) (g.new (O (N 40 true) (dL m vk vm))):=by
 have e1:=(Kn.new g (O (N 40 true) (dL m vk vm))).ld (q:=0) (x:=iV m.id) rfl;have e2:=(k.add (O (N 40 true) (dL m vk vm))).ld (q:=0) (x:=iV n) rfl;rw[ah1];simp only[vvB,seval,aod,WA,ai3,V.dB,e1,e2];simp only[bU,bT,vvB,seval,bW]
def amH(p:Pos)(x:V)(g:Hp):dn kV (.func (.func 222) .nil (.cons (X p 0) .nil)) [x] g=wR [x,X p 0] g:=(rfl)
def asZ(a:dV h F ps A pl ib cb fb vm vl I)(hA:A.Small)(vk:VwK h J pv box had m vw)(hm:m.length<=1000){w:Wr}{C:List V}(kc:Kn h pc (O w C))(hC:C[1]?=some (X pv 0)):
  ∃r h',zh [X pc 0,X ps 0] h=D r h'/\iU h.next.nat msE tMs 10 h' r (fE A.mails box 0 (m.map mgK))/\Nw h h':=by
 obtain⟨r,h1,e1,o1,c1⟩:=amU a hA;have R:=(o1.rws dG).mono (P':=λj=>h.next.nat<=j.nat/\j.nat<h1.next.nat) dG λj hj q=>⟨q,hj⟩
 have P1:=(kc.nw c1).ld hC;have a6:=((kc.nw c1).bump 0).ld hC;have aq:=vk.ch c1 λ_ _ q=>q;obtain⟨ri,h2,e2,o2,c2⟩:=aHp aq hm;have ar:=aq.ch c2 λ_ _ q=>q;have P2:=((kc.nw c1).nw c2).ld hC;obtain⟨ru,h3,e3,o3,c3⟩:=aff ar hm;have Ri:=(o2.rws (aN _)).nw (aN _) c3;have Ru:=o3.rws (aN _);have L:Nw h1 h3:=c2.trans c3;have n1:=c1.next;have n2:=c2.next;have n3:=c3.next;have hn:=hA.mails;rw[alJ];show aX d! _ (λr h'=>iU h.next.nat msE tMs 10 h' r (fE A.mails box 0 (m.map mgK))/\Nw h h') _;have cN:∀{k:Out},chk (λh=>aG (X pc 1) h) (X pv 0) k 1 [h1]=k:=sN rfl P1;have li:=Ri.len h3;rw[j!]at li;simp only[vvB,seval,adP,ab5,WN,WM,acw,WJ,e1,P1,P2,cN,e2,e3,li];refine Oc.then (dO (σ:=V) (n:=m.length) (pi:=26) (pn:=25) (pc:=27) [8,24,5,7,0] (λv=> [v,ri,r,ru,X pc 0]) (λk v g=>Nw h3 g/\dD h3.next.nat (λj=>h.next.nat<=j.nat/\j.nat<h1.next.nat) msE tMs 10 g v (fE A.mails box 0 ((m.map mgK).take k)))
  (A:=λfr g=>∃v,fr.get (a! 8)=some v/\Nw h3 g/\dD h3.next.nat (λj=>h.next.nat<=j.nat/\j.nat<h1.next.nat) msE tMs 10 g v (fE A.mails box 0 (m.map mgK))) (B:=λfr g=>False) (s:=.aQ)
  (λfr h _ k e1 e2=>by simp only[vvB,seval,WI,e1,e2]) (λfr h k _ e1=>by simp(disch:=omega)only[vvB,seval,UR,e1]) (by decide) (by rw[dP];omega) (qK0) (qK0) (by simp only[Fa,vvB,seval,and_self]) ⟨Nw.refl _,by simpa[fE]using dD.nil _ _ _ _ _ _⟩ ?_ ?_) ?_ ?_
 ·intro k v fr g hk G ae fa hI;obtain⟨f8,E,f5,f7,f0,-⟩:=fa;obtain⟨c,o⟩:=hI;obtain⟨x,hx⟩:∃x,m[k]?=some x:=⟨_,c! hk⟩
  have aL:(m.map (·.id))[k]?=some x.id:=by rw[i!,hx];rfl
  have aR:(m.map (·.uid))[k]?=some x.uid:=by rw[i!,hx];rfl
  have aM:(m.map mgK)[k]?=some (mgK x):=by rw[i!,hx];rfl
  have af:fE A.mails box 0 ((m.map mgK).take (k+1))=fE A.mails box 0 ((m.map mgK).take k)++CX A.mails box k (mgK x):=by
   rw[Go.Vm.take_snoc aM,aeS,u!,j!,Nat.min_eq_left (Nat.le_of_lt hk),x!];simp[fE]
  obtain⟨i1,q1,au,ag,aw,-,-,-,a1,-⟩:=(Ri.nw (aN _) c).elt aL;obtain rfl:au=eu x.id:=aw;have i:=a1 g rfl 0 (iV x.id) rfl;rw[z!]at i;obtain⟨g2,aB,Q,k2⟩:=mkW g (O (N 3 true) [iV x.id]);have S2:aV 1 (X g.next 0) (iV x.id) (g.new (O (N 3 true) [Y U 0]))=D V.undef g2:=by rw[aB];exact aze ⟨rfl,rfl⟩ (by decide)
  have ai:=c.trans Q;obtain⟨g3,e4,c4⟩:=FH (R.nw dG (L.trans ai)) dG (λy=>decide (y.id=x.id)) (by omega) (f:=.func (.func 222) .nil (.cons (X g.next 0) .nil)) (λb cs g _ cg e _=>by
   obtain⟨vk,vm,rfl,-,-⟩:=e;rw[amH,aqi (k2.nw cg)];exact⟨_,rfl,Nw.new _ _⟩)
  have d:Nw h3 g3:=ai.trans c4;have W:=akN (f:=λy:Ml=>decide (y.id=x.id)) (l:=A.mails);have a5:(fE A.mails box 0 ((m.map mgK).take k)).length<=1000:=by
   have:=arl A.mails box ((m.map mgK).take k) 0;rw[u!,j!]at this;omega
  have a9:=c.next;cases Z:A.mails.findIdx? (λy=>decide (y.id=x.id)) with
  |none=>
   rw[Z]at e4 W;simp only[gB]at e4;have M:CX A.mails box k (mgK x)= []:=by unfold CX;show(match A.mails.find? (λy=>decide (y.id=x.id)) with|some m=>_|none=>_)=_;rw[W]
   simp(disch:=omega)only[vvB,seval,AL,AB,AA,E,G,f5,ag,i,S2,e4];refine⟨qK2 G,qK2 ae,v,by simp only[Fa,vvB,seval,f8,E,f5,f7,f0,and_self],d,?_⟩;rw[af,M,F!];exact o.nw xU (Q.trans c4)
  |some t=>
   rw[Z]at e4 W;simp only[gB]at e4;obtain⟨y,hy⟩:∃y,A.mails[t]?=some y:=by
    cases hq:A.mails[t]? with
    |some y=>exact⟨y,rfl⟩
    |none=>
     rw[q!]at Z;obtain⟨ht,-⟩:=Z;rw[c! ht]at hq;cases hq
   have aa:A.mails.find? (λy=>decide (y.id=x.id))=some y:=by rw[W];exact hy
   have a0:=o! hy;have ba:=hA.each y a0;have a4:=(ar.ch c3 λ_ _ q=>q).ch d λ_ _ q=>q;have P3:=((((kc.nw c1).nw L).nw d).bump 0).ld hC;have ah:=(((kc.nw c1).nw L).nw d).ld hC;have eB:=av8 a4;obtain⟨i2,q2,a7,am,ax,-,aD,-,a2,a3⟩:=(R.nw dG (L.trans d)).elt hy;obtain⟨yk,ys,rfl,rk,rs⟩:=ax;have P:=a2 g3 rfl 5 ys rfl;obtain⟨i3,q3,av,an,ay,-,aE,-,ao,-⟩:=(Ru.nw (aN _) d).elt aR;obtain rfl:av=eu x.uid:=ay;have u:=ao g3 rfl 0 (iV x.uid) rfl;rw[z!]at u;obtain⟨S,e5,c5⟩:=ah3 rs (box,x.uid) (by omega);have aj:∀{k:Out},chk (λh=>aG (X i2 (q2+5)) h) ys k 1 [g3]=k:=sN rs.noF P;have ak:∀{k:Out},chk (λh=>aG (X i3 q3) h) (iV x.uid) k 1 [g3]=k:=sN rfl u;have ad:=d.trans c5;have ab:((t:Int)>=0)=True:=eq_true (by omega);by_cases hc:(y.mem.any λz=>decide ((box,x.uid)=z))=true
   ·rw[hc]at e5;have e5:kJ [ys,.agg (.cons (iV box) (.cons (iV x.uid) .nil))] g3=D (K true) S:=e5;have M:CX A.mails box k (mgK x)= [((k:Int)+1,x.uid,y)]:=by
     unfold CX;show(match A.mails.find? (λy=>decide (y.id=x.id)) with|some m=>_|none=>_)=_;rw[aa];show(if(y.mem.any λz=>decide ((box,x.uid)=z))=true then _ else _)=_;rw[if_pos hc];rfl
    have ap:=a3 (aK 1 S) (c5.get i2 aD λq=>q);have ac:=ao (aK 1 S) (c5.get i3 aE λq=>q) 0 (iV x.uid) rfl;rw[z!]at ac;have og:=o.nw xU ((Q.trans c4).trans c5);have a8:=ad.next;obtain⟨v',g5,e6,o6,c6,n6,-⟩:=og.app1 (bt:=120) (x:=((k:Int)+1,x.uid,y)) (cs:=msC ((k:Int)+1,x.uid,y) yk ys) (P':=λj=>h.next.nat<=j.nat/\j.nat<h1.next.nat) xU (by omega) rfl (λ_ _ q=>q) ⟨yk,ys,rfl,rk.nw (aN _) c5,rs.nw (aN _) c5⟩ (λj _ q e=>by have:=(og.fF e).1;omega) (by omega);have e6:bZ tMs 10 120 v (.slice S.next 0 1 (.kn 1)) (S.new (O (N tMs true) (msC ((k:Int)+1,x.uid,y) yk ys)))=D v' g5:=e6;have al:(aK 1 S).put S.next (some (O (N tMs true) (msC ((k:Int)+1,x.uid,y) yk ys)))=S.new (O (N tMs true) (msC ((k:Int)+1,x.uid,y) yk ys)):=rfl;have bM:=λh=>bMs ((k:Int)+1,x.uid,y) yk ys h;simp only[]at bM;simp(disch:=omega)only[vvB,seval,AL,AB,AA,WH,E,G,f5,f7,f8,f0,ag,i,S2,e4,ab,ah,eB,am,P,aj,an,u,ak,bMb,e5,ap,ac,bM,aQy,al,e6];refine⟨qK2 G,qK2 ae,v',by simp only[Fa,vvB,seval,E,f5,f7,f0,and_self],?_,?_⟩
    ·exact ad.own c6 λj e=>(og.fF e).1
    ·rw[af,M];exact o6
   ·have az:(y.mem.any λz=>decide ((box,x.uid)=z))=false:=Bool.eq_false_iff.2 hc;rw[az]at e5;have e5:kJ [ys,.agg (.cons (iV box) (.cons (iV x.uid) .nil))] g3=D (K false) S:=e5;have M:CX A.mails box k (mgK x)= []:=by
     unfold CX;show(match A.mails.find? (λy=>decide (y.id=x.id)) with|some m=>_|none=>_)=_;rw[aa];show(if(y.mem.any λz=>decide ((box,x.uid)=z))=true then _ else _)=_;rw[if_neg hc]
    simp(disch:=omega)only[vvB,seval,AL,AB,AA,E,G,f5,f7,f8,f0,ag,i,S2,e4,ab,ah,eB,am,P,aj,an,u,ak,bMb,e5];refine⟨qK2 G,qK2 ae,v,by simp only[Fa,vvB,seval,f8,E,f5,f7,f0,and_self],ad,?_⟩;rw[af,M,F!];exact o.nw xU ((Q.trans c4).trans c5)
 ·intro v fr g fa hI;obtain⟨f8,-⟩:=fa;obtain⟨c,o⟩:=hI;rw[l! (by simp)]at o;exact⟨v,f8,c,o⟩
 ·rintro fr g ⟨v,f8,c,o⟩;simp only[vvB,seval,UQ,f8];exact aX.ret (r:=v) (qT0) ⟨o.wide xU (by omega) λj hj q=>⟨q.1,λe=>by have:=(o.fF e).1;omega⟩,(c1.trans L).trans c⟩
 ·intro fr g q;exact q.elim
end
end Go.Proofs.Im
namespace Go.Im
end Go.Im
namespace Go.Proofs.Im
section
variable{h h' h0:Hp}{P F I J Z:Pos->Prop}{ps pl ib pv ir pc im:Pos}{cb:Cap}{fb uid:Bool}{vm vl vv vw:V}{m:List Mg}{st:Sn}{L:List V}{s:List Nat}{w:Wds}{ks:Int×Int×List (Int×Int×Int)}{bb:Nat}
def Rq.messages(q:Rq bb h0 Z h pc im ps ir uid w s st L vw P F J pl ib cb fb vm vl vv I)(d:st.vw=some ks)(c:st.acc.Small)(hk:ks.2.2.length<=1000):
  ∃r h',zh [X pc 0,X ps 0] h=D r h'/\iU h.next.nat msE tMs 10 h' r (fE st.acc.mails ks.1 0 ks.2.2)/\Nw h h':=by
 have a:=q.wd.view;rw[d]at a;obtain⟨pv,vwr,m,rfl,vk,b⟩:=a;have:=asZ q.wd.acc c vk (by have:=congrArg G! b;simp at this;omega) q.wd.con rfl;rw[b]at this;exact this
end
section
variable{h h' h0:Hp}{P F I J Z S:Pos->Prop}{ps pl ib ir pc im a0:Pos}{cb:Cap}{fb uid only:Bool}{vm vl vv vw:V}{l:List (Int×Int×Ml)}{st:Sn}{L:List V}{s:List Nat}{w:Wds}{k:Nat}{b:Bx}{bb:Nat}
def Rq.away(q:Rq bb h0 Z h pc im ps ir uid w s st L vw P F J pl ib cb fb vm vl vv I):¬(Ft F J pc im h.next\/OfB ir 5 L h.next):=λe=>e.elim (λf=>by have:=q.wd.lt _ f;omega) λo=>by have:=(o.from q.bd _).2;omega
def Rq.fin(q:Rq bb h0 Z h pc im ps ir uid w s st L vw P F J pl ib cb fb vm vl vv I){d:Hp}{a:Bool}{z:Wds}{s2:List Nat}{st2:Sn}(r:DL bb h (λj=>Ft F J pc im j\/OfB ir 5 L j) vw P d pc im ps ir a z s2 st2)(M:Kn h a0 (O (N tA true) zAn))(g:¬(Ft F J pc im a0\/OfB ir 5 L a0))(hb:h0.next.nat<=a0.nat)(c:List V)(hl:c.length=5):
  ∃n,aV 5 (X a0 0) (.agg (V.ofList c)) d=D V.undef n/\Kn n a0 (O (N tA true) c)/\DL bb h0 Z vw P n pc im ps ir a z s2 st2:=by
 have W:=M.2;obtain⟨r0,Q⟩:=q.comp r;obtain⟨E,B,C,u,t,i,m,x,v,y,I',r1⟩:=r;have G:=M.ch Q g;have no:¬OfB ir 5 E a0:=λo=>(r1.ob _ o).elim g λl=>by omega
 have nf:¬Ft B C pc im a0:=λf=>(r1.foot _ f).elim g λl=>by omega
 have p:∀j,(Ft F J pc im j\/OfB ir 5 L j)\/h.next.nat<=j.nat->Z j\/h0.next.nat<=j.nat:=λj e=>by
  rcases e with(e|e)|e
  ·exact q.foot j e
  ·exact q.ob j e
  ·have:=q.chz.next;exact .inr (by omega)
 have r2:Rq bb h0 Z d pc im ps ir a z s2 st2 E vw P B C u t i m x v y I':=
  {bd:=r1.bd
   hbb:=q.hbb
   ob:=λj o=>p j (r1.ob j o)
   l0:=r1.l0
   l1:=r1.l1
   l3:=r1.l3
   l4:=r1.l4
   ws:=r1.ws
   wd:=r1.wd
   dis:=r1.dis
   old:=q.old
   foot:=λj f=>p j (r1.foot j f)
   chz:=q.chz.trans r1.chz λj hj e=>(p j (.inl e)).resolve_right (by omega)}
 refine⟨d.put a0 (some (O (N tA true) c)),G.stN hl rfl,G.put _,?_⟩;exact(r2.atv (Ch.put (S:=λj=>j=a0) _ _ rfl) no nf hb).mk'
def aE7(q:Rq bb h0 Z h pc im ps ir uid w s st L vw P F J pl ib cb fb vm vl vv I)(d:w.len=1)(f:oL w= [jc])(e:Il w=false)(r:CanBox st.acc k b)(a:s.length<=100000):
  ∃h',Xd [X pc 0,X ir 0] h=D (anV 0 rwS false true false) h'/\
   DL bb h0 Z vw P h' pc im ps ir uid w (s++qJ (Wn st.acc.mails b.id).length b.valid b.next st.acc.clock) {st with only:=false,vw:=some (gu st.acc b.id)}:=by
 obtain⟨m,c,j,t⟩:=mkW h (O (N tA true) zAn);have g:=q.nw j;obtain⟨o,e2,r2⟩:=aFT g.aDU false d f e r a;obtain⟨p,i,u,v⟩:=g.fin r2 t q.away q.chz.next (anL 0 rwS false true false) rfl;refine⟨p,?_,v⟩;have e2:ET [X pc 0,X ir 0,K false] m=D (anV 0 rwS false true false) o:=e2
 rw[axB];simp(disch:=omega)only[vvB,seval,asf,aqu,ai7,<-c,e2,i];simp only[bU,bT,vvB,seval,LX,u.ldN (n:=5) rfl,bW]
end
end Go.Proofs.Im
namespace Go.Im
def Iq(name:List Nat):List (List Nat×Nat×Nat×Bool)->Option (Nat×Nat×Bool)
 | []=>none
 |c::l=>if name=c.1 then some c.2 else Iq name l
def amz(f:Nat×Nat×Bool->V)(name:List Nat):∀l:List (List Nat×Nat×Nat×Bool),lJ (H name) (l.map λc=>(H c.1,f c.2))=some ((Iq name l).map f)
 | []=>rfl
 |c::l=>by
  have hk:iL (H name) (H c.1)=some (decide (name=c.1)):=by show some (kF name c.1)=_;rw[aes]
  simp only[g!,lJ,hk,Iq];by_cases h:name=c.1
  ·simp[h]
  ·simp[h,amz f name l]
abbrev atS:List Nat:= [117,105,100]
end Go.Im
namespace Go.Proofs.Im
section
variable{bb:Nat}{h h' h0:Hp}{P F I J Z:Pos->Prop}{ps pl ib pv ir pc im a0:Pos}{cb:Cap}{fb uid only u:Bool}{vm vl vv vw:V}{st st2:Sn}{L a:List V}{s s2 nm:List Nat}{w:Wds}{f n:Nat}
def aD7{h:Hp}(b:h.get im=some (.map (gQ pc)))(z:V)(name:List Nat):
  Uk .string true z (.map im) (H name) h=D (.tuple (.cons (((Iq name aaC).map (aG6 pc)).getD z) (.cons (K (Iq name aaC).isSome) .nil))) h:=by
 show(match h.get im with|some (.map es)=>ahm true z (H name) es h|_=>.bad)=_;rw[b];simp only[ahm,gQ,amz];cases Iq name aaC<;>rfl
def Cmd(f:Nat)(bb:Nat)(pc im ps ir:Pos)(uid:Bool)(w:Wds)(s:List Nat)(st:Sn)(vw:V)(P:Pos->Prop)(a:List V)(s2:List Nat)(st2:Sn):Prop:=
 ∀(h0:Hp) (Z:Pos->Prop) (h:Hp) (L:List V) (F J:Pos->Prop) (pl ib:Pos) (cb:Cap) (fb:Bool) (vm vl vv:V) (I:Pos->Prop),Rq bb h0 Z h pc im ps ir uid w s st L vw P F J pl ib cb fb vm vl vv I->
  ∃b,dn aFe (.func (.func f) (.cons (X pc 0) .nil) .nil) [X ir 0] h=D (.agg (V.ofList a)) b/\DL bb h0 Z vw P b pc im ps ir uid w s2 st2
def ave(n:Nat)(st:Sn):Prop:=n=0\/(n=1/\st.inn=false)\/(n=2/\st.inn=true)\/(n=3/\st.vw≠none)
def aGf:Go.Vm.F->Hp->Out:=(aC (aC Ho (bI 0 (aC Hl (tT 63 agv (aC G9 (tT 70 agu (aC G8 (tT 76 agt t!)))))))) (aC (aC G6 (tT 84 (aC ar6 w!) t!)) (aC G5 w!)))
def auk:Go.Vm.F->Hp->Out:=aC abe (aC (aC abd (tT 59 (aC abf w!) t!)) (aC BJ aGf))
def asu:aFi=aC QX (aC (aC NK (tT 11 (aC (aC U4 (tT 17 (aC abf w!) t!)) (aC U3 U2)) t!)) auk):=rfl
def RunT(bb:Nat)(h0:Hp)(Z:Pos->Prop)(vw:V)(P:Pos->Prop)(pc im ps ir:Pos)(uid:Bool)(w:Wds)(a:List V)(s2:List Nat)(st2:Sn)(r:V)(h':Hp):Prop:=r=.agg (V.ofList a)/\DL bb h0 Z vw P h' pc im ps ir uid w s2 st2
def azl(q:Rq bb h0 Z h pc im ps ir uid w s st L vw P F J pl ib cb fb vm vl vv I)(ka:Kn h a0 (O (N tA true) zAn))(aw:¬(Ft F J pc im a0\/OfB ir 5 L a0))(ha:h0.next.nat<=a0.nat)(hf:Iq nm aaC=some (f,n,u))(hu:uid=true->u=true)(hm:ave n st)(hc:Cmd f bb pc im ps ir uid w s st vw P a s2 st2)(hl:a.length=5)
  {fr:Go.Vm.F} (i:fr.get (a! 0)=some (X pc 0)) (f1:fr.get (a! 1)=some (X ir 0)) (f2:fr.get (a! 2)=some (H nm)) (b:fr.get (a! 6)=some (X a0 0)):
  aX d! [.cell 6 tA] (RunT bb h0 Z vw P pc im ps ir uid w a s2 st2) (auk fr h):=by
 obtain⟨d,g⟩:∃d,d=(h.new (O (N 122 true) [.fJ,Y U 0,K false])).put h.next (some (O (N 122 true) [.func (.func f) (.cons (X pc 0) .nil) .nil,Y U (n:Int),K u])):=⟨_,rfl⟩
 have W:Nw h d:=by rw[g];exact ahs _ _ _
 have B:Kn d h.next (O (N 122 true) [.func (.func f) (.cons (X pc 0) .nil) .nil,Y U (n:Int),K u]):=by rw[g];exact(Kn.new h _).put _
 have j:=q.nw W;have G:=ka.nw W;obtain⟨h2,e2,r2⟩:=hc _ _ _ _ _ _ _ _ _ _ _ _ _ _ j.aDU;obtain⟨h3,m,k3,r3⟩:=j.fin r2 G aw ha a hl;have M:=q.wd.con.ld (q:=4) (x:=.map im) rfl;have z:=aD7 q.wd.map.1 (.agg (.cons .fJ (.cons (Y U 0) (.cons (K false) .nil)))) nm;rw[hf]at z;simp only[Option.map_some,Option.getD_some,Option.isSome_some,aG6]at z;have S:=B.ld (q:=2) (x:=K u) rfl;have r:=B.ld (q:=1) (x:=Y U (n:Int)) rfl;have p:=B.ld (q:=0) (x:=.func (.func f) (.cons (X pc 0) .nil) .nil) rfl;have l:=j.wd.con.ld (q:=0) (x:=K st.inn) rfl;have C1:=j.wd.con.ld (q:=1) (x:=vv) rfl;have Q:=j.kr.ld j.l4;have E:st.vw≠none->∃pv,vv=X pv 0:=λC=>by
  have:=q.wd.view;cases y:st.vw with
  |none=>exact absurd y C
  |some o=>rw[y]at this;obtain⟨pv,_,_,e,_⟩:=this;exact⟨pv,e⟩
 have rest:∀fr:Go.Vm.F,fr.get (a! 0)=some (X pc 0)->fr.get (a! 1)=some (X ir 0)->fr.get (a! 6)=some (X a0 0)->fr.get (a! 7)=some (X h.next 0)->fr.get (a! 9)=some (K true)->aX d! [.cell 6 tA] (RunT bb h0 Z vw P pc im ps ir uid w a s2 st2) (aGf fr d):=by
  clear i f1 f2 b;intro fr i f1 b t v;unfold aGf;have ret:∀fr:Go.Vm.F,fr.get (a! 6)=some (X a0 0)->aX d! [.cell 6 tA] (RunT bb h0 Z vw P pc im ps ir uid w a s2 st2) (.ret fr h3):=λfr b=>
   aX.ret (by simp only[bT,vvB,seval,b,LX,k3.ldN (n:=5) hl,bW]) ⟨rfl,r3⟩
  rcases hm with rfl|⟨rfl,hi⟩|⟨rfl,hi⟩|⟨rfl,y⟩
  ·have c:aG (X h.next 1) d=D (Y U 0) d:=r;simp(disch:=omega)only[vvB,seval,Ho,Hl,G9,G8,G6,G5,i,f1,b,t,v,c,p,e2,m,n!];exact ret _ (qK2 b)
  ·have c:aG (X h.next 1) d=D (Y U 1) d:=r;rw[hi]at l;simp(disch:=omega)only[vvB,seval,Ho,Hl,agv,G9,G8,G6,G5,i,f1,b,t,v,c,p,l,e2,m,n!];exact ret _ (qK2 b)
  ·have c:aG (X h.next 1) d=D (Y U 2) d:=r;rw[hi]at l;simp(disch:=omega)only[vvB,seval,Ho,Hl,G9,agu,G8,G6,G5,i,f1,b,t,v,c,p,l,e2,m,n!];exact ret _ (qK2 b)
  ·have c:aG (X h.next 1) d=D (Y U 3) d:=r;obtain⟨pv,rfl⟩:=E y;simp(disch:=omega)only[vvB,seval,Ho,Hl,G9,G8,agt,G6,G5,i,f1,b,t,v,c,p,C1,ax2,e2,m,n!];exact ret _ (qK2 b)
 unfold auk;cases uid with
 |false=>
  simp(disch:=omega)only[vvB,seval,abe,abd,BJ,i,f1,f2,b,M,z,apa,aBU (dU _ _),<-g,Q];exact rest _ (qK2 i) (qK2 f1) (qK2 b) (qK0) (qK0)
 |true=>
  have k:=hu rfl;rw[k]at S g;simp(disch:=omega)only[vvB,seval,abe,abd,BJ,i,f1,f2,b,M,z,k,apa,aBU (dU _ _),<-g,Q,S];exact rest _ (qK2 i) (qK2 f1) (qK2 b) (qK0) (qK0)
def run_go(q:Rq bb h0 Z h pc im ps ir false w s st L vw P F J pl ib cb fb vm vl vv I)(c:nm≠atS)(k:Iq nm aaC=some (f,n,u))(l:ave n st)(j:Cmd f bb pc im ps ir false w s st vw P a s2 st2)(hl:a.length=5):
  ∃h',ZC [X pc 0,X ir 0,H nm] h=D (.agg (V.ofList a)) h'/\DL bb h0 Z vw P h' pc im ps ir false w s2 st2:=by
 obtain⟨p,b,d,m⟩:=mkW h (O (N tA true) zAn);have o:=q.nw d;have g:(nm= [117,105,100])=False:=eq_false c;rw[asF,asu]
 suffices i:aX d! [.cell 6 tA] (RunT bb h0 Z vw P pc im ps ir false w a s2 st2)
   (aC QX (aC (aC NK (tT 11 (aC (aC U4 (tT 17 (aC abf w!) t!)) (aC U3 U2)) t!)) auk) (T.set (some (H nm)) (a! 2) (T.set (some (X ir 0)) (a! 1) (T.set (some (X pc 0)) (a! 0) T.nil))) h) by
  obtain⟨r,h',e,rfl,q⟩:=i;exact⟨h',e,q⟩
 simp(disch:=omega)only[vvB,seval,g,QX,NK,<-b];exact azl o m q.away q.chz.next k (λe=>by cases e) l j hl (qK0) (qK0) (qK0) (qK0)
end
end Go.Proofs.Im
namespace Go.Im
def oZ(now:List (Int×Ml))(x:Mg):Option (Int×Ml):=now.find? λy=>decide (y.1=x.uid)&&decide (y.2.id=x.id)
abbrev oG:List Nat:= [69,88,80,85,78,71,69]
def Fp(n:Nat)(l:List (List Nat)):List Nat:= [42,32]++eX n++ [32]++dN [32] l++ [13,10]
def zN(now:List (Int×Ml))(l:List Mg):List Mg:=l.filter λx=>(oZ now x).isSome
def jI(now:List (Int×Ml)):Nat->List Mg->List Nat
 |_,[]=> []
 |i,x::l=>if(oZ now x).isSome=true then jI now (i+1) l else Fp (i+1) [oG]++jI now i l
end Go.Im
namespace Go.Proofs.Im
section
variable{h h' g:Hp}{P:Pos->Prop}{p cp i:Pos}{uid only:Bool}{v:V}{L j:List V}{s:List Nat}{w:Wds}{f n:Nat}{b:Bx}{now:List (Int×Ml)}
def asT{y:Int×Ml}{vk vs:V}{x:Mg}{w:Wr}(kp:Kn g p (O w (mgC x))):yZ [.agg (V.ofList (thC y vk vs)),X p 0] g=D (K (decide (y.1=x.uid)&&decide (y.2.id=x.id))) (g.new (O (N 250 true) (thC y vk vs))):=by
 have e1:=(Kn.new g (O (N 250 true) (thC y vk vs))).ld (q:=0) (x:=iV y.1) rfl;have c:=(Kn.new g (O (N 250 true) (thC y vk vs))).ld (q:=1) (x:=iV y.2.id) rfl;have e2:=(kp.add (O (N 250 true) (thC y vk vs))).ld (q:=0) (x:=iV x.uid) rfl;have d:=(kp.add (O (N 250 true) (thC y vk vs))).ld (q:=1) (x:=iV x.id) rfl;rw[alC];by_cases e:y.1=x.uid
 ·have a:(y.1=x.uid)=True:=eq_true e;simp only[vvB,seval,QY,IJ,II,V.dB,e1,e2,c,d,a];simp only[bU,bT,vvB,seval,bW,Bool.true_and]
 ·have a:(y.1=x.uid)=False:=eq_false e;simp only[vvB,seval,QY,IJ,II,V.dB,e1,e2,c,d,a];simp only[bU,bT,vvB,seval,bW,Bool.false_and]
def apI(p:Pos)(x:V)(g:Hp):dn zH (.func (.func 178) .nil (.cons (X p 0) .nil)) [x] g=yZ [x,X p 0] g:=(rfl)
def azX(x:V)(h:Hp):Di d! 250 x h=cO 9 x h:=kR
def afe{w:Wr}(kc:Kn h cp (O w [v]))(r:Rws P D5 9 h v now)(hn:now.length<=1000)(x:Mg):
  ∃h' cs f,JW [.agg (V.ofList (mgC x)),X cp 0] h=D (.tuple (.cons (.agg (V.ofList cs)) (.cons (K f) .nil))) h'/\Nw h h'/\cs.length=9/\f=(oZ now x).isSome/\∀y,oZ now x=some y->∃vk vs,cs=thC y vk vs:=by
 obtain⟨u,G,c1,k1⟩:=mkW h (O (N 248 true) (mgC x));obtain⟨h2,I,c2,k2⟩:=mkW u (O (N 250 true) zTh);have c:=c1.trans c2;have V2:=(kc.nw c).ld (q:=0) (x:=v) rfl;have Z:∀g,dZ (.func 178) [] [X h.next 0] g=D (.func (.func 178) .nil (.cons (X h.next 0) .nil)) g:=λg=>rfl;obtain⟨o,e3,C⟩:=ahT (r.nw eF c) eF (λy=>decide (y.1=x.uid)&&decide (y.2.id=x.id)) (by omega) (f:=.func (.func 178) .nil (.cons (X h.next 0) .nil)) (λy cs g _ cg e _=>by
  obtain⟨vk,vs,rfl,-,-⟩:=e;rw[apI,asT ((k1.nw c2).nw cg)];exact⟨_,rfl,Nw.new _ _⟩)
 have d:oh [v,.func (.func 178) .nil (.cons (X h.next 0) .nil)] h2=D (iV (gB (now.findIdx? λy=>decide (y.1=x.uid)&&decide (y.2.id=x.id)))) o:=e3;have J:=k2.nw C;have n1:=c1.next;have m:=akN (f:=λy:Int×Ml=>decide (y.1=x.uid)&&decide (y.2.id=x.id)) (l:=now);have B3:bK zTh [] o=D (.agg (V.ofList zTh)) o:=(rfl)
 rw[aoD];cases B:now.findIdx? (λy=>decide (y.1=x.uid)&&decide (y.2.id=x.id)) with
 |none=>
  rw[B]at d m;simp only[gB]at d;have E:oZ now x=none:=m;obtain⟨k,a⟩:∃k,k=o.put u.next (some (O (N 250 true) zTh)):=⟨_,rfl⟩
  have M:aV 9 (X u.next 0) (.agg (V.ofList zTh)) o=D V.undef k:=by rw[a];exact J.stN rfl rfl
  have S:Kn k u.next (O (N 250 true) zTh):=by rw[a];exact J.put _
  have Q:Nw h k:=by rw[a];exact(c.trans C).put (by omega) _
  simp(disch:=omega)only[vvB,seval,U5,MG,MF,MC,YO,V.dB,<-G,<-I,V2,Z,d,B3,M];exact⟨k,zTh,false,by simp only[bU,bT,vvB,seval,azX,S.ldN (n:=9) rfl,bW]<;>rfl,Q,rfl,by rw[E];rfl,λy e=>by rw[E]at e;cases e⟩
 |some t=>
  rw[B]at d m;simp only[gB]at d;obtain⟨y,hy⟩:∃y,now[t]?=some y:=by
   obtain⟨ht,-⟩:=q!.1 B;exact⟨_,c! ht⟩
  have E:oZ now x=some y:=by rw[show oZ now x=_ from m];exact hy
  obtain⟨i,q,cs,ix,ex,aa,-,-,-,ln⟩:=(r.nw eF (c.trans C)).elt hy;obtain⟨vk,vs,rfl,-,-⟩:=ex;have W:=ln o rfl;have V3:=((kc.nw c).nw C).ld (q:=0) (x:=v) rfl;obtain⟨k,a⟩:∃k,k=o.put u.next (some (O (N 250 true) (thC y vk vs))):=⟨_,rfl⟩
  have M:aV 9 (X u.next 0) (.agg (V.ofList (thC y vk vs))) o=D V.undef k:=by rw[a];exact J.stN rfl rfl
  have S:Kn k u.next (O (N 250 true) (thC y vk vs)):=by rw[a];exact J.put _
  have Q:Nw h k:=by rw[a];exact(c.trans C).put (by omega) _
  simp(disch:=omega)only[vvB,seval,U5,MG,MF,MC,YN,V.dB,<-G,<-I,V2,Z,d,V3,ix,W,M];exact⟨k,thC y vk vs,true,by simp only[bU,bT,vvB,seval,azX,S.ldN (n:=9) rfl,bW]<;>rfl,Q,rfl,by rw[E];rfl,λz e=>by rw[E]at e;cases e;exact⟨vk,vs,rfl⟩⟩
def aHn{b:Nat}(d:Bd b h i 0 141 L s){n:Nat}(hn:n<100){l:List (List Nat)}(sl:Sl h.next.nat h 1 v l.length (l.map H))(e:zO 1 v)(hl:l.length<=100)(ht:fV l<=1000000)(hb:∀t∈l,∀c∈t,c<256)(hj:l.length<=1\/dN [32] l≠ [])(W:s.length<=1000000):
  ∃r h' m,JX [Y U (n:Int),v,X i 0] h=D r h'/\Bd b h' i 0 141 m (s++Fp n l)/\Stp (OfB i 0 L) h (OfB i 0 m) h':=by
 have S:=mJ hn;obtain⟨r1,J,e1,rfl,o⟩:=akE (sep:= [32]) sl e (B! _) (by omega) (by simp) (by omega) hb (by simp) hj;have M:(dN [32] l).length<=1000100:=by
  cases l with
  |nil=>simp[dN]
  |cons a r=>
   rw[xX,C!,aeW];simp[fV]at ht⊢;simp at hl;omega
 obtain⟨r2,u,G,e2,b2,Q,-,-⟩:=TS (d.ch o λ_ _ _ q=>q) (Fp n l) (by unfold Fp;simp;omega);have I:=ae6 hn h;have Sa:∀(x y:List Nat) (g:Hp),x.length+y.length<4000000->aJ .add .none (H x) (H y) g=D (H (x++y)) g:=λx y g hl=>dX (by omega);have z:=λg=>Sa [42,32] (eX n) g (by simp;omega);have B:=λg=>Sa ([42,32]++eX n) [32] g (by simp;omega);have C:=λg=>Sa ([42,32]++eX n++ [32]) (dN [32] l) g (by simp;omega);have E:=λg=>Sa ([42,32]++eX n++ [32]++dN [32] l) [13,10] g (by simp;omega);have k:zi [X i 0,H ([42,32]++eX n++ [32]++dN [32] l++ [13,10])] J=D r2 u:=e2;rw[aoE];simp only[vvB,seval,agx,YP,I,z,B,e1,C,E,k];exact⟨_,u,G,by simp only[bU,bT,vvB,seval,bW]<;>rfl,b2,((Stp.refl (OfB i 0 L) h).step o λ_ q=>q.elim).trans Q⟩
end
end Go.Proofs.Im
