/- Lemmas that the claim's last text uses. No conditions. -/
import Derived.Test.YtpgppmioigacoaaGreatDoorDrAM
import Derived.Test.YtpgppmioigacoaaGreatDoorDrAH
set_option linter.all false
set_option maxRecDepth 100000
open Nat renaming reduceEqDiff→a!,le_refl→k!,add_zero→n!,lt_of_lt_of_le→p!,mul_le_mul→u!,zero_add→v!,beq_refl→w!,beq→x!
open List renaming getElem?_set_ne→b!,getElem?_set_self→c!,getElem?_eq_some_iff→g!,getElem?_eq_getElem→h!,length_append→i!,take_length→j!,take_add_one→q!,mem_append→r!,length_nil→t!
open Go.Vm.Pos renaming of→d!
open Go.Proofs.Tryz renaming prog→e!
open Int renaming tdiv_eq_ediv_of_nonneg→l!,tdiv→o!,zero_add→y!
open Go.Vm.V renaming int→Y,ptr→X,bool→K,str→H
open Go.IntKind renaming i64→U
open Go.Vm.Ob renaming cells→O
open Go.Vm.Wr renaming rw→N
open Go.Vm.R renaming ok→D
noncomputable section
open Go Go.Proofs Go.Vm Go.Ln
namespace Go.Proofs.Im
theorem ahJ{s:List Nat}{h:Hp}(hl:s.length<1000000000)(J:∀c∈s,c<256):∃r h',Dy [H s] h=D r h'/\r=H (foldM s)/\Ch (λ_=>False) h h':=by
 rw[aBl];show aX e! _ (λr h'=>r=H (foldM s)/\Ch (λ_=>False) h h') _;simp(disch:=omega)only[vvB,a!,reduceCtorEq,↓reduceIte,asG,asA,asz,asy,aqm];refine Oc.then (dZ (n:=s.length) (λm fr g=>∃k rest,fr.get (d! 0)=some (H s)/\fr.get (d! 3)=some (.slice h.next 0 k (.kn s.length))/\fr.get (d! 10)=some (Y U (s.length:Int))/\fr.get (d! 11)=some (Y U (k:Int))/\
   k+m=s.length/\g.get h.next=some (O (N tB true) (bys (foldM (s.take k))++rest))/\rest.length=m/\Ch (λ_=>False) h g/\h.next.nat<g.next.nat)
  (A:=λfr g=>fr.get (d! 3)=some (.slice h.next 0 s.length (.kn s.length))/\∃rest,g.get h.next=some (O (N tB true) (bys (foldM s)++rest))/\Ch (λ_=>False) h g) (B:=λ_ _=>False) (by rw[dW];omega) ?_ ?_) ?_ ?_
 ·exact⟨0,times s.length [Y .u8 0],qK0,qK0,qK0,qK1,by omega,by simp[foldM,bys,dR],ay1 _ _,Ch.new _ _ _,by rw[bD];omega⟩
 ·rintro m fr g ⟨k,rest,f0,f3,e,i,hk,p,w,f,Z⟩;by_cases hz:m=0
  ·subst hz;have G:k=s.length:=by omega
   subst G;simp(disch:=omega)only[vvB,a!,reduceCtorEq,↓reduceIte,Sz,RI,e,i];exact⟨rfl,qK2 f3,rest,by rw[j!]at p;exact p,f⟩
  ·have l:k<s.length:=by omega
   obtain⟨x,a,rfl⟩:∃x r,rest=x::r:=by
    cases rest with
    |nil=>simp at w;omega
    |cons x r=>exact⟨x,r,rfl⟩
   have Q:=J s[k] (List.getElem_mem _);have z:∀h,mX (H s) (Y U (k:Int)) h=D (Y .u8 ((s[k]:Nat):Int)) h:=λh=>Yt (h! l);generalize E:s[k]=c at Q z;have ht:foldM (s.take (k+1))=foldM (s.take k)++ [Nk c]:=by
    rw[q!,h! l,E];simp[foldM]
   have I:(bys (foldM (s.take k))).length=k:=by rw[AX];simp[foldM];omega
   have C:=λy:V=>aIz (el:=tB) (bt:=1) (y:=y) p I l Z;have fin:∀o,o=(g.new (O (N tB true) [Y .u8 ((Nk c:Nat):Int)])).put h.next (some (O (N tB true) (bys (foldM (s.take k))++Y .u8 ((Nk c:Nat):Int)::a)))->
     o.get h.next=some (O (N tB true) (bys (foldM (s.take (k+1)))++a))/\Ch (λ_=>False) h o/\h.next.nat<o.next.nat:=by
    rintro o rfl;refine⟨?_,?_,by rw[jQ,bD];omega⟩
    ·rw[jE,ht,YQ];simp[bys]
    ·refine⟨by rw[jQ,bD];have:=f.next;omega,λj S W=>?_⟩;rw[PZ _ (by omega),new_ne _ (by have:=f.next;omega)];exact f.get j S W
   by_cases M:65<=c
   ·by_cases P:c<=90
    ·have d:Nk c=c+32:=by unfold Nk;rw[if_pos ⟨M,P⟩]
     have L:∀h,aJ .add .none (Y .u8 (c:Int)) (Y .u8 32) h=D (Y .u8 ((c+32:Nat):Int)) h:=λh=>azg (b:=32) (by omega);rw[d]at fin;simp(disch:=omega)only[vvB,a!,reduceCtorEq,↓reduceIte,Sz,RI,Zw,Zu,Zt,Zr,Zq,Zo,f0,f3,e,i,z,L,C];obtain⟨t,u,v⟩:=fin _ rfl;exact⟨m - 1,by omega,k+1,a,qK2 f0,qK0,qK2 e,qK1,by omega,t,by simp at w;omega,u,v⟩
    ·have d:Nk c=c:=by unfold Nk;rw[if_neg (by omega)]
     rw[d]at fin;simp(disch:=omega)only[vvB,a!,reduceCtorEq,↓reduceIte,Sz,RI,Zw,Zu,Zt,Zr,Zq,Zo,f0,f3,e,i,z,C];obtain⟨t,u,v⟩:=fin _ rfl;exact⟨m - 1,by omega,k+1,a,qK2 f0,qK0,qK2 e,qK1,by omega,t,by simp at w;omega,u,v⟩
   ·have d:Nk c=c:=by unfold Nk;rw[if_neg (by omega)]
    rw[d]at fin;simp(disch:=omega)only[vvB,a!,reduceCtorEq,↓reduceIte,Sz,RI,Zw,Zu,Zt,Zr,Zq,Zo,f0,f3,e,i,z,C];obtain⟨t,u,v⟩:=fin _ rfl;exact⟨m - 1,by omega,k+1,a,qK2 f0,qK0,qK2 e,qK1,by omega,t,by simp at w;omega,u,v⟩
 ·rintro fr g ⟨f3,rest,p,f⟩;have hb:=atQ (n:=s.length) p (aCb J);rw[show(foldM s).length=s.length by simp[foldM]]at hb;simp(disch:=omega)only[vvB,a!,reduceCtorEq,↓reduceIte,aoq,f3,hb];exact aX.ret (qT0) ⟨rfl,f⟩
 ·intro fr g q;exact q.elim
theorem amg{s:List Nat}(h:Hp)(hl:s.length<1000000000)(a:∀c∈s,c<256):∃h',Dy [H s] h=D (H (foldM s)) h'/\Ch (λ_=>False) h h':=by
 obtain⟨r,h',e,rfl,c⟩:=ahJ hl a;exact⟨h',e,c⟩
structure Bd (b:Nat) (h:Hp) (i:Pos) (q:Nat) (t:TypeId) (l:List V) (s:List Nat):Prop where
 hb:b<=i.nat
 hi:i.nat<h.next.nat
 get:h.get i=some (O (N t true) l)
 addr:l[q]?=some .bP\/l[q]?=some (X i q)
 buf:∃vb,l[q+1]?=some vb/\Ow b h tB 1 vb s.length (bys s)/\∀j,bH vb=some j->j≠i
 lies:liesAt e! e!.depth t (l.length / e!.cellsOf t) q tBd 1=true
theorem Bd.ch{b:Nat}{h h':Hp}{i:Pos}{q:Nat}{t:TypeId}{l:List V}{s:List Nat}{S:Pos->Prop}(d:Bd b h i q t l s)(c:Ch S h h')(f:∀j:Pos,b<=j.nat->j.nat<h.next.nat->¬S j):Bd b h' i q t l s:=by
 obtain⟨vb,g,a,k⟩:=d.buf;refine⟨d.hb,p! d.hi c.next,by rw[c.get i d.hi (f i d.hb d.hi)];exact d.get,d.addr,⟨vb,g,a.ch c λj e=>f j (a.eu e).1 (a.eu e).2,k⟩,d.lies⟩
theorem Pe(l:List V)(q:Nat)(v:V):(l.set q v).length=l.length:=by simp
theorem arq{b:Nat}{h:Hp}{i:Pos}{q:Nat}{t:TypeId}{l:List V}{s:List Nat}(d:Bd b h i q t l s):
  ∃r h',ael [X i q] h=D r h'/\Bd b h' i q t (l.set q (X i q)) s/\Ch (λj=>j=i) h h'/\h'.next=h.next:=by
 rw[aBj];show aX e! _ (λr h'=>Bd b h' i q t (l.set q (X i q)) s/\Ch (λj=>j=i) h h'/\h'.next=h.next) _;have e:=d.get;rcases d.addr with c|c
 ·have f:aF (X i q) h=D .bP h:=by rw[CW e];simp only[c]
  have a:q<l.length:=(g!.1 c).1;have v:=aEh e c;have w:=azF (P:=e!) (u:=tBd) e c d.lies;have p:=PV e (y:=X i q) ⟨rfl,rfl⟩ a;have o:atj [X i q] h=D (X i q) h:=rfl;simp(disch:=omega)only[vvB,a!,reduceCtorEq,↓reduceIte,ak6,ah5,asi,n!,f,afq,v,o,w,p];refine aX.nor (qT0) ⟨?_,Ch.put h _ rfl,rfl⟩;obtain⟨vb,x,z,g⟩:=d.buf;refine⟨d.hb,d.hi,jE _ _ _,.inr (by rw[c! a]),⟨vb,?_,z.ch (Ch.put (S:=λj=>j=i) h _ rfl) λj C=>g j C,g⟩,by rw[Pe];exact d.lies⟩;rw[b! (by omega)];exact x
 ·have f:aF (X i q) h=D (X i q) h:=by rw[CW e];simp only[c]
  have a:q<l.length:=(g!.1 c).1;simp(disch:=omega)only[vvB,a!,reduceCtorEq,↓reduceIte,ak6,ah5,ash,n!,f,eG,ap5 (n:=2) rfl];have B:l.set q (X i q)=l:=by
   apply List.ext_getElem?;intro k;by_cases m:q=k
   ·subst m;rw[c! a,c]
   ·rw[b! m]
  rw[B];exact aX.nor (qT0) ⟨d,Ch.refl _ _,rfl⟩
def OfB(i:Pos)(q:Nat)(l:List V)(j:Pos):Prop:=j=i\/∃v,l[q+1]?=some v/\bH v=some j
theorem PN{b:Nat}{h:Hp}{i:Pos}{q:Nat}{ty:TypeId}{l:List V}{s:List Nat}(d:Bd b h i q ty l s)(t:List Nat)(S:s.length+t.length<=1000000000):
  ∃r h' v,xM [X i q,H t] h=D r h'/\Bd b h' i q ty v (s++t)/\Stp (OfB i q l) h (OfB i q v) h'/\(∀k,k≠q->k≠q+1->v[k]?=l[k]?)/\v.length=l.length:=by
 obtain⟨r1,u,e1,f,G,W⟩:=arq d;obtain⟨vb,b1,b2,w⟩:=f.buf;obtain⟨n,m,e2,B,x,i2⟩:=aEO (bt:=1) (t:=t) b2 (by have:=f.hb;have:=f.hi;omega) (by omega);have g:q+1<(l.set q (X i q)).length:=(g!.1 b1).1;have C:aF (X i (q+1)) u=D vb u:=by rw[CW f.get];simp only[b1]
 have I:m.get i=some (O (N ty true) (l.set q (X i q))):=by rw[x.get i f.hi λc=>w i c rfl];exact f.get
 have E:=PV I (y:=n) B.cell g;have z:Ch (λj=>j=i) m (m.put i (some (O (N ty true) ((l.set q (X i q)).set (q+1) n)))):=Ch.put m _ rfl;refine⟨.tuple (.cons (Y U (t.length:Int)) (.cons .nP .nil)),m.put i (some (O (N ty true) ((l.set q (X i q)).set (q+1) n))),(l.set q (X i q)).set (q+1) n,?_,?_,?_,λk Q J=>by rw[b! (by omega),b! (by omega)],by simp⟩
 ·rw[aBk];simp(disch:=omega)only[vvB,a!,reduceCtorEq,↓reduceIte,asF,asx,asw,asv,asu,e1,C,e2,E];simp only[aU,bW,vvB,a!,reduceCtorEq,↓reduceIte,bZ];rfl
 ·refine⟨d.hb,by rw[jQ];have:=f.hi;have:=x.next;omega,jE _ _ _,.inr ?_,⟨n,?_,?_,?_⟩,by rw[Pe];exact f.lies⟩
  ·rw[b! (by omega),c! (by simp at g;omega)]
  ·rw[c! g]
  ·have P:=B.ch z λj c=>by
    rcases i2 j c with a|a
    ·exact w j a
    ·intro e;rw[e]at a;have:=f.hi;omega
   rw[i!];exact P
  ·intro j c;rcases i2 j c with a|a
   ·exact w j a
   ·intro e;rw[e]at a;have:=f.hi;omega
 ·have o:l[q+1]?=some vb:=by rw[b! (by omega)]at b1;exact b1
  have L:Stp (OfB i q l) h (OfB i q l) u:=⟨G.mono λj _ e=>.inl e,λ_ q=>.inl q⟩
  have M:Stp (OfB i q l) u (OfB i q ((l.set q (X i q)).set (q+1) n)) m:=⟨x.mono λj _ c=>.inr ⟨vb,o,c⟩,λj c=>by
   rcases c with c|⟨v2,p,c⟩
   ·exact .inl (.inl c)
   ·rw[c! g]at p;cases p;rcases i2 j c with a|a
    ·exact .inl (.inr ⟨vb,o,a⟩)
    ·exact .inr a⟩
  exact(L.trans M).step z λj e=>.inl e
theorem OfB.from{b:Nat}{h:Hp}{i:Pos}{q:Nat}{t:TypeId}{l:List V}{s:List Nat}(d:Bd b h i q t l s)(j:Pos)(o:OfB i q l j):b<=j.nat/\j.nat<h.next.nat:=by
 rcases o with rfl|⟨v,a,c⟩
 ·exact⟨d.hb,d.hi⟩
 ·obtain⟨vb,b1,b2,e⟩:=d.buf;rw[b1]at a;cases a;exact b2.eu c
theorem Bd.chO{b:Nat}{h h':Hp}{i:Pos}{q:Nat}{t:TypeId}{l:List V}{s:List Nat}{S:Pos->Prop}(d:Bd b h i q t l s)(c:Ch S h h')(e:∀j:Pos,OfB i q l j->¬S j):Bd b h' i q t l s:=by
 obtain⟨vb,a,f,g⟩:=d.buf;refine⟨d.hb,p! d.hi c.next,by rw[c.get i d.hi (e i (.inl rfl))];exact d.get,d.addr,⟨vb,a,f.ch c λj k=>e j (.inr ⟨vb,a,k⟩),g⟩,d.lies⟩
theorem ahg{b:Nat}{h:Hp}{i:Pos}{q:Nat}{ty:TypeId}{l:List V}{s:List Nat}(d:Bd b h i q ty l s)(t:List Nat)(g:s.length+t.length<=1000000000):
  ∃r h' a,xM [X i q,H t] h=D r h'/\Bd b h' i q ty a (s++t)/\Ch (λj=>b<=j.nat) h h'/\(∀k,k≠q->k≠q+1->a[k]?=l[k]?)/\a.length=l.length:=by
 obtain⟨r,h',a,e,f,c,k,n⟩:=PN d t g;exact⟨r,h',a,e,f,c.ch.mono λj _ o=>(o.from d j).1,k,n⟩
theorem ace{b:Nat}{h:Hp}{i:Pos}{q:Nat}{t:TypeId}{l:List V}{s:List Nat}(d:Bd b h i q t l s)(h0:s≠ [])(w:∀c∈s,c<256)(hl:s.length<=1000000000):
  ∃h',Ir [X i q] h=D (H s) h'/\Ch (λj=>OfB i q l j/\j≠i) h h'/\h'.next=h.next:=by
 obtain⟨vb,b1,b2,o⟩:=d.buf;have a:aF (X i (q+1)) h=D vb h:=by rw[CW d.get];simp only[b1]
 have k:aZ 2 vb h=D (Y U (s.length:Int)) h:=b2.sl.length;have e:0<s.length:=by cases s with|nil=>exact absurd rfl h0|cons _ _=>simp
 rcases b2.is with⟨y,_⟩|⟨j,rfl,r,u,f,p⟩
 ·omega
 ·obtain⟨m,v⟩:∃m,s.length=m+1:=⟨s.length - 1,by omega⟩
  have g:Az (.slice j 0 s.length (.un 1)) h=D (X j 0) h:=by rw[v];rfl
  have n:=apz p w (by omega) h0;have x:eqV (V.slice j 0 s.length (.un 1)) (V.slice j 0 s.length (.un 1))=true:=by
   show(match j.eq j,x! 0 0,x! s.length s.length with
    |true,true,true=>x! 1 1
    |_,_,_=>false)=true
   rw[Pos.eq_self,w!,w!];rfl
  refine⟨h.put j (some (O .ro (bys s))),?_,Ch.put h _ ⟨.inr ⟨_,b1,rfl⟩,o j rfl⟩,rfl⟩;rw[aoz];simp(disch:=omega)only[vvB,a!,reduceCtorEq,↓reduceIte,ak9,aia,ah9,a,k,g,n,Jo (m:=λh=>aF (X i (q+1)) h) a x];simp only[aU,bW,vvB,a!,reduceCtorEq,↓reduceIte,bZ]
theorem ay2{b:Nat}{h:Hp}{i:Pos}{q:Nat}{t:TypeId}{l:List V}{s:List Nat}(d:Bd b h i q t l s)(h0:s≠ [])(a:∀c∈s,c<256)(hl:s.length<=1000000000):
  ∃h',Ir [X i q] h=D (H s) h'/\Ch (λj=>b<=j.nat/\j≠i) h h'/\h'.next=h.next:=by
 obtain⟨h',e,c,n⟩:=ace d h0 a hl;exact⟨h',e,c.mono λj _ o=>⟨(o.1.from d j).1,o.2⟩,n⟩
theorem aB6{b:Nat}{h:Hp}{i:Pos}{q:Nat}{t:TypeId}{l:List V}(d:Bd b h i q t l [])(a:l[q+1]?=some .aQ)(n:Nat)(h0:0<n)(E:n<=1000000000):
  ∃r h' o,alB [X i q,Y U (n:Int)] h=D r h'/\Bd b h' i q t o []/\Ch (λj=>b<=j.nat) h h'/\o.length=l.length/\(∀k,k≠q->k≠q+1->o[k]?=l[k]?):=by
 have f:aF (X i (q+1)) h=D .aQ h:=by rw[CW d.get];simp only[a]
 have c:q+1<l.length:=(g!.1 a).1;have p:(h.new (O (N tB false) [])).get i=some (O (N t true) l):=by rw[new_ne h (by have:=d.hi;omega)];exact d.get
 have s:aF (X i (q+1)) (h.new (O (N tB false) []))=D .aQ (h.new (O (N tB false) [])):=by rw[CW p];simp only[a]
 have w:=PV p (y:=.slice h.next 0 0 (.un 1)) ⟨rfl,rfl⟩ c;have v:ati [Y U (n:Int)] h=D (.slice h.next 0 n (.un 1)) (h.new (O (N tB false) [])):=azh (by omega);have u:aJ .mul .none (Y U 2) (Y U 0) h=D (Y U 0) h:=rfl;have x:Ch (λj=>b<=j.nat) h (h.new (O (N tB false) [])):=Ch.new _ _ _;have z:Ch (λj=>j=i) (h.new (O (N tB false) [])) ((h.new (O (N tB false) [])).put i (some (O (N t true) (l.set (q+1) (.slice h.next 0 0 (.un 1)))))):=Ch.put _ _ rfl;refine⟨.tuple .nil,(h.new (O (N tB false) [])).put i (some (O (N t true) (l.set (q+1) (.slice h.next 0 0 (.un 1))))),l.set (q+1) (.slice h.next 0 0 (.un 1)),?_,?_,x.trans (z.mono λj _ e=>by rw[e];exact d.hb) (λ_ _ q=>q),by simp,λk _ C=>by rw[b! (by omega)]⟩
 ·rw[aBi];simp(disch:=omega)only[vvB,a!,reduceCtorEq,↓reduceIte,asE,asg,asf,ase,f,s,acA,Tz,u,y!,v,w,axE,axJ,avu (m:=λh=>aF (X i (q+1)) h) f f (show eqV V.aQ V.aQ=true from rfl)];simp only[aU,bW,vvB,a!,reduceCtorEq,↓reduceIte,bZ];rfl
 ·refine⟨d.hb,by rw[jQ,bD];have:=d.hi;omega,jE _ _ _,?_,⟨.slice h.next 0 0 (.un 1),by rw[c! c],⟨by simp[bys],.inr ⟨h.next,rfl,by have:=d.hb;have:=d.hi;omega,by rw[jQ,bD];omega,false,?_⟩⟩,?_⟩,by rw[Pe];exact d.lies⟩
  ·rcases d.addr with g|g
   ·left;rw[b! (by omega)];exact g
   ·right;rw[b! (by omega)];exact g
  ·rw[PZ _ (by have:=d.hi;omega),dR];rfl
  ·intro j B e;cases B;have:=d.hi;rw[<-e]at this;omega
theorem aEw{b:Nat}{h:Hp}{i:Pos}{q:Nat}{t:TypeId}{l:List V}(d:Bd b h i q t l [])(c:l[q+1]?=some .aQ)(n:Nat)(B:n<=1000000000):
  ∃r h' s,alC [X i q,Y U (n:Int)] h=D r h'/\Bd b h' i q t s []/\Ch (λj=>b<=j.nat) h h'/\s.length=l.length/\(∀k,k≠q->k≠q+1->s[k]?=l[k]?):=by
 obtain⟨r1,g,e1,o,w,J⟩:=arq d;have a:(l.set q (X i q))[q+1]?=some .aQ:=by rw[b! (by omega)];exact c
 have f:aF (X i (q+1)) g=D .aQ g:=by rw[CW o.get];simp only[a]
 have v:Ch (λj=>b<=j.nat) h g:=w.mono λj _ e=>by rw[e];exact d.hb
 have I:= @Jo (λh=>aF (X i (q+1)) h) V.aQ;by_cases h0:n=0
 ·refine⟨.tuple .nil,g,l.set q (X i q),?_,o,v,by simp,λk u _=>by rw[b! (by omega)]⟩;rw[aoy];simp(disch:=omega)only[vvB,a!,reduceCtorEq,↓reduceIte,ak8,ah8,ah7,ah6,e1,f,acA,Tz,Jo (m:=λh=>aF (X i (q+1)) h) f (show eqV V.aQ V.aQ=true from rfl)];simp only[aU,bW,vvB,a!,reduceCtorEq,↓reduceIte,bZ];rfl
 ·obtain⟨r2,z,C,e2,y,x,E,G⟩:=aB6 o a n (by omega) B;refine⟨.tuple .nil,z,C,?_,y,v.trans x λ_ _ q=>q,by rw[E];simp,λk u p=>by rw[G k u p,b! (by omega)]⟩;rw[aoy];simp(disch:=omega)only[vvB,a!,reduceCtorEq,↓reduceIte,ak8,ah8,ah7,ah6,asj,e1,e2,f,acA,Tz,Jo (m:=λh=>aF (X i (q+1)) h) f (show eqV V.aQ V.aQ=true from rfl)];simp only[aU,bW,vvB,a!,reduceCtorEq,↓reduceIte,bZ];rfl
theorem strs_get{l:List (List Nat)}{k:Nat}{a:List Nat}(e:l[k]?=some a):(l.map H)[k]?=some (H a):=by rw[List.getElem?_map,e];rfl
theorem au8:liesAt e! e!.depth tBd (2 / e!.cellsOf tBd) 0 tBd 1=true:=kR
theorem aEi(h:Hp):fC tBd [.bP,.aQ] h=D (X h.next 0) (h.new (O (N tBd true) [.bP,.aQ])):=(rfl)
theorem take_snoc{α:Type}{l:List α}{k:Nat}{a:α}(e:l[k]?=some a):l.take (k+1)=l.take k++ [a]:=by rw[q!,e];rfl
theorem ahB{c:Nat}{h:Hp}{v:V}{l:List (List Nat)}{sep:List Nat}(s:Sl c h 1 v l.length (l.map H))(ah:yB 1 v)(hc:c<=h.next.nat)(hn:l.length<=1000000)(hs:sep.length<=100)(ht:iG l<=100000000)
  (hb:∀t∈l,∀c∈t,c<256) (ao:∀c∈sep,c<256) (E:l.length<=1\/dN sep l≠ []):
  ∃r h',ae6 [v,H sep] h=D r h'/\r=H (dN sep l)/\Ch (λ_=>False) h h':=by
 rw[aDA];show aX e! _ (λr h'=>r=H (dN sep l)/\Ch (λ_=>False) h h') _;have sl:∀h',aZ 2 v h'=D (Y U (l.length:Int)) h':=λh'=>s.length;cases l with
 |nil=>
  simp(disch:=omega)only[vvB,a!,reduceCtorEq,↓reduceIte,ae2,XA,Xz,Xy,awN,sl,t!,show((0:Nat):Int)=0 from rfl];exact aX.ret (qT0) ⟨rfl,Ch.refl _ _⟩
 |cons a r=>
 obtain⟨i0,q0,x0,aj,e0,aw,l0⟩:=s.at1 (m:=0) (by simp);rw[strs_get (show(a::r)[0]?=some a from rfl)]at aj;cases aj;cases r with
 |nil=>
  have M:∀h',bJ 1 v (Y U 0) h'=D (X i0 q0) h':=e0;simp(disch:=omega)only[vvB,a!,reduceCtorEq,↓reduceIte,ae2,XA,Xz,Xy,ae0,awM,sl,List.length_cons,t!,v!,show((1:Nat):Int)=1 from rfl,M,l0 h rfl];exact aX.ret (r:=H (dN sep [a])) (qT0) ⟨rfl,Ch.refl _ _⟩
 |cons a2 r2=>
 generalize an:a2::r2=b at*;have aE:1<=b.length:=by rw[<-an];simp
 have o:(a::b).length=b.length+1:=by simp
 rw[o]at sl hn;have d:((b.length+1:Nat):Int)=(b.length:Int)+1:=by omega
 rw[d]at sl;have aL:iG (a::b)=a.length+iG b:=by simp[iG]
 obtain⟨G,I⟩:∃G,G=sep.length*b.length:=⟨_,rfl⟩
 have hw:G<=100000000:=by rw[I];exact Nat.le_trans (u! hs (show b.length<=1000000 by omega)) (by omega)
 have C:(sep.length:Int)*((b.length:Int)+1 - 1)=(G:Int):=by
  rw[I,show(b.length:Int)+1 - 1=(b.length:Int) by omega];simp
 have aa:sep.length=0->G=0:=λe=>by rw[I,e,Nat.zero_mul]
 have ay:(1000:Int)<=o! 9223372036854775807 ((b.length:Int)+1 - 1):=by
  rw[l! (by omega)];exact Int.le_ediv_of_mul_le (by omega) (by omega)
 have az:o! 9223372036854775807 ((b.length:Int)+1 - 1)<=9223372036854775807:=by
  rw[l! (by omega)];exact Int.ediv_le_self _ (by omega)
 have qu:∀h',aJ .quo .none (Y U 9223372036854775807) (Y U ((b.length:Int)+1 - 1)) h'=D (Y U (o! 9223372036854775807 ((b.length:Int)+1 - 1))) h':=λh'=>aqt (by omega) (by omega) (by omega);have mu:∀h',aJ .mul .none (Y U (sep.length:Int)) (Y U ((b.length:Int)+1 - 1)) h'=D (Y U (G:Int)) h':=λh'=>by rw[aqv (by rw[C];omega) (by rw[C];omega),C]
 generalize aD:o! 9223372036854775807 ((b.length:Int)+1 - 1)=qq at*;have J:∀fr,fr.get (d! 0)=some v->fr.get (d! 1)=some (H sep)->fr.get (d! 5)=some (Y U (G:Int))->
   aX e! [.tmp 4] (λr h'=>r=H (dN sep (a::b))/\Ch (λ_=>False) h h') (qF (qF (ah1 fr h) (bK 1 (dI ZV lf))) (aB ahZ (aB ahY (aB ahX (aB (aB ahW (bK 3 (dI ZU lf))) (aB ahU Out.ret)))))):=by
  intro fr f0 f1 Q;simp(disch:=omega)only[vvB,a!,reduceCtorEq,↓reduceIte,ah1,f0,sl];refine Oc.then (dZ (n:=b.length+1) (λm fr g=>∃k:Nat,fr.get (d! 0)=some v/\fr.get (d! 1)=some (H sep)/\fr.get (d! 39)=some v/\fr.get (d! 40)=some (Y U ((b.length:Int)+1))/\fr.get (d! 41)=some (Y U (k:Int))/\
    fr.get (d! 5)=some (Y U ((G+iG ((a::b).take k):Nat):Int))/\k+m=b.length+1/\g=h)
   (A:=λfr g=>fr.get (d! 0)=some v/\fr.get (d! 1)=some (H sep)/\fr.get (d! 5)=some (Y U ((G+iG (a::b):Nat):Int))/\g=h) (B:=λ_ _=>False) (by rw[dW];omega) ?_ ?_) ?_ ?_
  ·exact⟨0,qK2 f0,qK2 f1,qK0,qK0,qK1,by simp only[vvB,a!,reduceCtorEq,↓reduceIte,Q];simp[iG],by omega,rfl⟩
  ·rintro m fr g ⟨k,f0,f1,ad,P,ae,Q,hk,rfl⟩;by_cases hz:m=0
   ·simp(disch:=omega)only[vvB,a!,reduceCtorEq,↓reduceIte,ZV,ah0,P,ae];have Z:k=(a::b).length:=by rw[o];omega
    rw[Z,j!]at Q;exact⟨rfl,qK2 f0,qK2 f1,qK2 Q,rfl⟩
   ·have z:k<(a::b).length:=by rw[o];omega
    obtain⟨i,q,x,p,e1,-,e2⟩:=s.at1 z;obtain⟨t,f⟩:∃t,(a::b)[k]?=some t:=⟨_,h! z⟩
    rw[strs_get f]at p;cases p;have ai:=axo ((a::b).take k) t;rw[<-take_snoc f]at ai;have ax:=aiY (a::b) (k+1);simp(disch:=omega)only[vvB,a!,reduceCtorEq,↓reduceIte,ZV,ah0,asb,asa,ar9,ar8,Q,ad,P,ae,e1,e2 g rfl];exact⟨m - 1,by omega,k+1,qK2 f0,qK2 f1,qK2 ad,qK2 P,qK1,by simp only[vvB,a!,reduceCtorEq,↓reduceIte];rw[ai];congr 2;omega,by omega,rfl⟩
  ·rintro fr g ⟨f0,f1,Q,rfl⟩;have d0:Bd g.next.nat (g.new (O (N tBd true) [.bP,.aQ])) g.next 0 tBd [.bP,.aQ] []:=
    ⟨k! _,by rw[bD];omega,dR _ _,.inl rfl,⟨.aQ,rfl,Ow.nil _ _ _ _,λj W=>(by cases W)⟩,au8⟩
   obtain⟨r3,h3,l3,e3,d3,c3,n3,-⟩:=aEw d0 rfl (G+iG (a::b)) (by omega);have ab:Ch (λj=>g.next.nat<=j.nat) g h3:=(Ch.new (λj=>g.next.nat<=j.nat) g _).trans c3 λ_ _ q=>q;obtain⟨r4,h4,l4,e4,d4,c4,-,n4⟩:=ahg d3 a (by simp;omega);have ac:=ab.trans c4 λ_ _ q=>q;obtain⟨v',es,s',av,-⟩:=s.from ah (by omega) (lo:=1) (by simp);have s4:∀{u},Ch (λj=>g.next.nat<=j.nat) g u->Sl c u 1 v' b.length (b.map H):=λc=>by
    have:=s'.ch c hc λj W=>by have:=s'.eu W;omega
    simpa using this
   have L0:aF (X i0 q0) h3=D (H a) h3:=l0 h3 (ab.get i0 (by omega) (by omega));have M:∀h',bJ 1 v (Y U 0) h'=D (X i0 q0) h':=e0;have ak:∀h',eY 1 v (some (Y U 1)) none none h'=D v' h':=es;have au:∀h',aZ 2 v' h'=D (Y U (b.length:Int)) h':=λh'=>(s4 ac).length;simp(disch:=omega)only[vvB,a!,reduceCtorEq,↓reduceIte,ahZ,ahY,ahX,ahW,f0,f1,Q,aEi,e3,M,L0,e4,ak,au];refine Oc.then (dZ (n:=b.length) (λm fr u=>∃(k:Nat) (lb:List V),fr.get (d! 1)=some (H sep)/\fr.get (d! 8)=some (X g.next 0)/\fr.get (d! 63)=some v'/\fr.get (d! 64)=some (Y U (b.length:Int))/\fr.get (d! 65)=some (Y U (k:Int))/\
     k+m=b.length/\Bd g.next.nat u g.next 0 tBd lb (a++yx sep (b.take k))/\Ch (λj=>g.next.nat<=j.nat) g u)
    (A:=λfr u=>fr.get (d! 8)=some (X g.next 0)/\∃lb,Bd g.next.nat u g.next 0 tBd lb (dN sep (a::b))/\Ch (λj=>g.next.nat<=j.nat) g u) (B:=λ_ _=>False) (by rw[dW];omega) ?_ ?_) ?_ ?_
   ·exact⟨0,l4,qK2 f1,qK0,qK0,qK0,qK1,by omega,by simpa[yx]using d4,ac⟩
   ·rintro m fr u ⟨k,lb,f1,f8,af,S,ag,hk,db,L⟩;by_cases hz:m=0
    ·simp(disch:=omega)only[vvB,a!,reduceCtorEq,↓reduceIte,ZU,ahV,S,ag];have Z:k=b.length:=by omega
     rw[Z,j!,<-AA]at db;exact⟨rfl,qK2 f8,lb,db,L⟩
    ·have z:k<b.length:=by omega
     obtain⟨i,q,x,p,e1,-,e2⟩:=(s4 L).at1 z;obtain⟨t,f⟩:∃t,b[k]?=some t:=⟨_,h! z⟩
     rw[strs_get f]at p;cases p;have w:(a++yx sep (b.take (k+1))).length<=900000000:=by
      rw[i!,acK];have h1:=aiY b (k+1);have h2:sep.length*(b.take (k+1)).length<=100*1000000:=u! hs (by rw[List.length_take];omega);omega
     rw[take_snoc f,ajt]at w;obtain⟨r5,h5,l5,e5,d5,c5,-,-⟩:=ahg db sep (by simp at w⊢;omega);obtain⟨r6,h6,l6,e6,d6,c6,-,-⟩:=ahg d5 t (by simp at w⊢;omega);simp(disch:=omega)only[vvB,a!,reduceCtorEq,↓reduceIte,ZU,ahV,ar7,ar6,ar5,ar4,f1,f8,af,S,ag,e1,e2 u rfl,e5,e6];refine⟨m - 1,by omega,k+1,l6,qK2 f1,qK2 f8,qK2 af,qK2 S,qK1,by omega,?_,(L.trans c5 λ_ _ q=>q).trans c6 λ_ _ q=>q⟩;rw[take_snoc f,ajt];simpa using d6
   ·rintro fr u ⟨f8,lb,db,L⟩;have W:dN sep (a::b)≠ []:=by
     rcases E with E|E
     ·rw[o]at E;omega
     ·exact E
    have am:(dN sep (a::b)).length<=1000000000:=by
     have e3:=acK sep b;rw[AA,i!,e3,<-I];omega
    have al:∀c∈dN sep (a::b),c<256:=by
     intro x p;rw[AA,r!]at p;rcases p with p|p
     ·exact hb a (by simp) x p
     ·unfold yx at p;obtain⟨y,hy,ar⟩:=List.mem_flatten.1 p;obtain⟨t,aq,rfl⟩:=List.mem_map.1 hy;rcases r!.1 ar with q|q
      ·exact ao x q
      ·exact hb t (by simp[aq]) x q
    obtain⟨h7,e7,c7,-⟩:=ay2 db W al am;simp(disch:=omega)only[vvB,a!,reduceCtorEq,↓reduceIte,ahU,f8,e7];refine aX.ret (r:=H (dN sep (a::b))) (qT0) ⟨rfl,?_⟩;exact⟨by have:=L.next;have:=c7.next;omega,λj W hn=>(c7.get j (by have:=L.next;omega) (by omega)).trans (L.get j W (by omega))⟩
   ·intro fr g q;exact q.elim
  ·intro fr g q;exact q.elim
 by_cases ap:sep.length=0
 ·have:=aa ap;simp(disch:=omega)only[vvB,a!,reduceCtorEq,↓reduceIte,ae2,XA,Xz,Xy,ae0,amO,amN,sl,o,d];exact J _ (qK0) (qK0) (by simp only[vvB,a!,reduceCtorEq,↓reduceIte];rw[this];rfl)
 ·simp(disch:=omega)only[vvB,a!,reduceCtorEq,↓reduceIte,ae2,XA,Xz,Xy,ae0,amO,amN,awL,asc,sl,o,d,qu,mu];simp only[y!];exact J _ (qK0) (qK0) (qK0)
end Go.Proofs.Im
namespace Go.Vm
section
variable{h:Hp}
def YU(k:Int)(t:List Nat)(last bare:Bool):V:=.agg (.cons (Y U k) (.cons (H t) (.cons (K last) (.cons (K bare) (.cons (K false) .nil)))))
def arz(k:Int)(t:List Nat)(last bare:Bool):List V:= [Y U k,H t,K last,K bare,K false]
theorem ajh(k:Int)(s:List Nat):bQ [Y U 0,H [],K false,K false,K false] [(0,1,Y U k),(1,1,H s)] h=D (YU k s false false) h:=(rfl)
theorem axK:bQ [Y U 0,H [],K false,K false,K false] [] h=D (YU 0 [] false false) h:=(rfl)
theorem aeE(t:TypeId):fC t [Y U 0,H [],K false,K false,K false] h=D (X h.next 0) (h.new (O (N t true) [Y U 0,H [],K false,K false,K false])):=(rfl)
theorem axl{i:Pos}{t:TypeId}{f:Bool}{x y z u v:V}{k:Int}{s:List Nat}{a b:Bool}(c:h.get i=some (O (N t f) [x,y,z,u,v])):aT 5 (X i 0) (YU k s a b) h=D V.undef (h.put i (some (O (N t f) (arz k s a b)))):=by
 rw[vX c rfl rfl];rfl
theorem axX{i:Pos}{wr:Wr}{k:Int}{s:List Nat}{a b:Bool}(c:h.get i=some (O wr (arz k s a b))):bT 5 (X i 0) h=D (YU k s a b) h:=by
 show dP h i (λ_ cs=>match gm 5 (fB 0 cs) with|some l=>R.ok (V.agg (V.ofList l)) h|none=>.bad)=_;rw[dM (wr:=wr) (all:=arz k s a b) (by rw[c];rfl)];rfl
theorem Pq(h:Hp)(o o':Ob):Ch (λ_=>False) h ((h.new o).put h.next (some o')):=
 (Ch.new (λ_=>False) h o).trans (Ch.put (S:=λj=>j=h.next) _ _ rfl) λj a q=>by rw[q]at a;omega
end
end Go.Vm
namespace Go.Ln
theorem Wds.amd:∀{ws:Wds} {k:Nat},k<ws.len->∃w,ws.get? k=some w
 | .nil,_,h=>absurd h (by simp[Wds.len])
 | .cons k t ks _,0,_=>⟨_,rfl⟩
 | .cons _ _ _ r,n+1,h=>by simp only[Wds.len]at h;exact Wds.amd (ws:=r) (k:=n) (by omega)
def Wds.drop:Wds->Nat->Wds
 |w,0=>w
 | .nil,_+1=>.nil
 | .cons _ _ _ r,n+1=>r.drop n
theorem Wds.len_drop:∀{ws:Wds} {k:Nat},(ws.drop k).len=ws.len - k
 | .nil,0=>rfl
 | .nil,k+1=>by simp[Wds.drop,Wds.len]
 | .cons _ _ _ _,0=>rfl
 | .cons _ _ _ r,k+1=>by simp only[Wds.drop,Wds.len];rw[Wds.len_drop (ws:=r)];omega
theorem WAt.drop{P:Pos->Prop}{h:Hp}:∀{ws:Wds} {cs:List V} {k:Nat},WAt P h ws cs->WAt P h (ws.drop k) (cs.drop (k*3))
 | .nil,_,0,w=>w
 | .nil,cs,k+1,w=>by rw[show cs= [] from w];simp[Wds.drop,WAt]
 | .cons _ _ _ _,_,0,w=>by simpa[Wds.drop]using w
 | .cons _ _ _ r,_,k+1,⟨vk,c,cr,e,o,p,a,b⟩=>by
  rw[e,show(k+1)*3=3+k*3 by omega,<-List.drop_drop];exact WAt.drop (ws:=r) b
def WS(P:Pos->Prop)(h:Hp)(v:V)(ws:Wds):Prop:=∃cs,Sl h.next.nat h 3 v ws.len cs/\yB 3 v/\(∀j,bH v=some j->P j)/\WAt P h ws cs
theorem QT.ws{P:Pos->Prop}{h:Hp}{v:V}{ws:Wds}(t:QT P h v ws):WS P h v ws:=by
 obtain⟨cs,o,p,a⟩:=t;refine⟨cs,o.sl,?_,p,a⟩;intro i q n c e;rcases o.is with⟨_,b⟩|⟨_,b,_⟩
 ·rw[b]at e;cases e
 ·rw[b]at e;cases e;rfl
theorem WS.ch{P P' S:Pos->Prop}{h h':Hp}{v:V}{ws:Wds}(t:WS P h v ws)(c:Ch S h h')(d:∀j:Pos,j.nat<h.next.nat->P j->P' j/\¬S j):WS P' h' v ws:=by
 obtain⟨cs,o,k,p,a⟩:=t;exact⟨cs,(o.ch c (k! _) λj b=>(d j (o.eu b) (p j b)).2).le c.next,k,λj b=>(d j (o.eu b) (p j b)).1,a.ch c d⟩
theorem WS.len{P:Pos->Prop}{h:Hp}{v:V}{ws:Wds}(t:WS P h v ws)(h':Hp):aZ 2 v h'=D (Y U (ws.len:Int)) h':=by
 obtain⟨cs,o,-⟩:=t;exact o.length
theorem WS.cell{P:Pos->Prop}{h:Hp}{v:V}{ws:Wds}(t:WS P h v ws):v.cells= [v]/\ja v=true:=by
 obtain⟨cs,o,-⟩:=t;exact o.cell
theorem WS.from{P:Pos->Prop}{h:Hp}{v:V}{ws:Wds}(t:WS P h v ws){k:Nat}(g:k<=ws.len):∃b,(∀h',eY 3 v (some (Y U (k:Int))) none none h'=D b h')/\WS P h b (ws.drop k):=by
 obtain⟨cs,o,c,p,a⟩:=t;obtain⟨b,e,s,d,i⟩:=o.from c (by omega) g;exact⟨b,e,cs.drop (k*3),by rw[Wds.len_drop];exact s,d,λj f=>p j (i j f),a.drop⟩
def OO(w:Wds)(k:Nat):Bool:=match w.get? k with|some x=>decide (x.kind=1)|none=>false
end Go.Ln
namespace Go.Proofs.Im
theorem aeS(x:V)(h:Hp):AV e! tA x h=bT 5 x h:=kR
theorem WS.at{P:Pos->Prop}{h:Hp}{v:V}{ws:Wds}(t:WS P h v ws){k:Nat}{w:Wd}(e:ws.get? k=some w):
  ∃j q vk,(∀h',bJ 3 v (Y U (k:Int)) h'=D (X j q) h')/\aF (X j q) h=D (Y U w.kind) h/\aF (X j (q+1)) h=D (H w.text) h/\aF (X j (q+2)) h=D vk h/\QT P h vk w.kids:=by
 obtain⟨cs,o,-,i,x⟩:=t;have d:=Wds.Po e;obtain⟨j,q,e1,-,e2⟩:=o.at d;obtain⟨a,b,vk,c,f⟩:=WAt.get x e;exact⟨j,q,vk,e1,e2 h rfl 0 _ (by omega) a,e2 h rfl 1 _ (by omega) b,e2 h rfl 2 _ (by omega) c,f⟩
theorem aHY{b c:Nat}{h:Hp}{i:Pos}{t:TypeId}{L:List V}{s:List Nat}{v:V}{l:List (List Nat)}(d:Bd b h i 5 t L s)(sl:Sl c h 1 v l.length (l.map H))(e:yB 1 v)(y:c<=h.next.nat)
  (B:l.length<=1000000) (C:iG l<=100000000) (hb:∀t∈l,∀c∈t,c<256) (z:l.length<=1\/dN [32] l≠ []) (S:s.length+(dN [32] l).length+2<=1000000000):
  ∃r h' f,zi [X i 0,v] h=D r h'/\Bd b h' i 5 t f (s++(dN [32] l++ [13,10]))/\Stp (OfB i 5 L) h (OfB i 5 f) h'/\(∀k,k≠5->k≠6->f[k]?=L[k]?)/\f.length=L.length:=by
 obtain⟨r1,P,e1,rfl,g⟩:=ahB sl e y B (by simp) C hb (by simp) z;have o:=d.ch g λ_ _ _ q=>q;obtain⟨r2,Q,M,e2,p,m,E,I⟩:=PN o (dN [32] l) (by omega);obtain⟨W,x,j,w,u,n,G,J⟩:=PN p [13,10] (by simp;omega);rw[aDD];simp(disch:=omega)only[vvB,a!,reduceCtorEq,↓reduceIte,ayB,awZ,awY,e1,e2,w];refine⟨_,x,j,rfl,by rw[<-List.append_assoc];exact u,(((Stp.refl (OfB i 5 L) h).step g λ_ q=>q.elim).trans m).trans n,λk a b=>(G k a b).trans (E k a b),J.trans I⟩
theorem aBr(h:Hp):∃h',apt [] h=D (YU 2 [119,111,114,100,115] false false) h'/\Ch (λ_=>False) h h':=by
 rw[aDE];simp(disch:=omega)only[vvB,a!,reduceCtorEq,↓reduceIte,ayC,aw1,aw0,aeE,ajh,axl (dR _ _)];exact⟨_,by simp only[aU,bW,vvB,a!,reduceCtorEq,↓reduceIte,aeS,axX (jE _ _ _),bZ];rfl,Pq _ _ _⟩
theorem apL(h:Hp):∃h',Us [] h=D (YU 1 [115,116,97,116,101] false false) h'/\Ch (λ_=>False) h h':=by
 rw[aDz];simp(disch:=omega)only[vvB,a!,reduceCtorEq,↓reduceIte,ayy,awK,awJ,aeE,ajh,axl (dR _ _)];exact⟨_,by simp only[aU,bW,vvB,a!,reduceCtorEq,↓reduceIte,aeS,axX (jE _ _ _),bZ];rfl,Pq _ _ _⟩
theorem acL{P:Pos->Prop}{h:Hp}{v:V}{w:Wds}(t:WS P h v w)(k:Nat):Dz [v,Y U (k:Int)] h=D (K (OO w k)) h:=by
 rw[aBn];by_cases b:k<w.len
 ·obtain⟨x,a⟩:=Wds.amd b;obtain⟨j,q,vk,e1,e2,c,d,e⟩:=WS.at t a;simp(disch:=omega)only[vvB,a!,reduceCtorEq,↓reduceIte,ala,aif,aie,WS.len t,e1,e2,n!];simp only[aU,bW,vvB,a!,reduceCtorEq,↓reduceIte,bZ];unfold OO;rw[a]
 ·simp(disch:=omega)only[vvB,a!,reduceCtorEq,↓reduceIte,ala,aif,aie,WS.len t];simp only[aU,bW,vvB,a!,reduceCtorEq,↓reduceIte,bZ];unfold OO;cases a:w.get? k with
  |none=>rfl
  |some x=>exact absurd (Wds.Po a) b
end Go.Proofs.Im
namespace Go.Vm
section
variable{h:Hp}
theorem pU(t:TypeId)(a:List Nat):bY t [H []] 1 [(0,1,H a)] h=D (.slice h.next 0 1 (.kn 1)) (h.new (O (N t true) [H a])):=(rfl)
theorem alY(t:TypeId)(a b:List Nat):bY t [H [],H []] 2 [(0,1,H a),(1,1,H b)] h=D (.slice h.next 0 2 (.kn 2)) (h.new (O (N t true) [H a,H b])):=(rfl)
theorem alX(t:TypeId)(a b c d:List Nat):bY t [H [],H [],H [],H []] 4 [(0,1,H a),(1,1,H b),(2,1,H c),(3,1,H d)] h=D (.slice h.next 0 4 (.kn 4)) (h.new (O (N t true) [H a,H b,H c,H d])):=(rfl)
theorem Sl.aDN{el:TypeId}{h:Hp}(l:List V){n:Nat}(a:l.length=n):Sl (h.next.nat+1) (h.new (O (N el true) l)) 1 (.slice h.next 0 n (.kn n)) n l:=⟨by omega,.inr ⟨h.next,0,_,N el true,l,rfl,by omega,by rw[dR];rfl,λk _=>by rw[v!]⟩⟩
theorem ajF{i:Pos}{n:Nat}:yB 1 (.slice i 0 n (.kn n)):=λ_ _ _ _ e=>by cases e;exact k! _
end
end Go.Vm
namespace Go.Proofs.Im
def ayq(n:Nat)(v:V):V:=if n=0 then v else YU 2 [119,111,114,100,115] false false
theorem auL{b:Nat}{h:Hp}{i:Pos}{t el:TypeId}{L:List V}{s:List Nat}(d:Bd b h i 5 t L s)(l:List (List Nat)){n:Nat}(o:l.length=n)(hl:n<=100)
  (u:iG l<=100000000) (hb:∀t∈l,∀c∈t,c<256) (m:n<=1\/dN [32] l≠ []) (p:s.length+(dN [32] l).length+2<=1000000000):
  ∃r h' a,zi [X i 0,.slice h.next 0 n (.kn n)] (h.new (O (N el true) (l.map H)))=D r h'/\Bd b h' i 5 t a (s++(dN [32] l++ [13,10]))/\Stp (OfB i 5 L) h (OfB i 5 a) h'/\(∀k,k≠5->k≠6->a[k]?=L[k]?)/\a.length=L.length:=by
 subst o;have f:Ch (λ_=>False) h (h.new (O (N el true) (l.map H))):=Ch.new _ _ _;obtain⟨r,h',a,e,j,g,v,w⟩:=aHY (d.ch f λ_ _ _ q=>q) (Sl.aDN (el:=el) (h:=h) (l.map H) (by simp)) ajF (by rw[bD];omega) (by omega) u hb m p;exact⟨r,h',a,e,j,((Stp.refl (OfB i 5 L) h).step f λ_ q=>q.elim).trans g,v,w⟩
def apb(n:Nat)(t:List Nat):List Nat:=if n=0 then t++ [13,10] else []
theorem azL{P:Pos->Prop}{b:Nat}{h:Hp}{i:Pos}{t:TypeId}{L:List V}{s:List Nat}{c vw:V}{w:Wds}(d:Bd b h i 5 t L s)(M:L[3]?=some vw)(G:WS P h vw w)(hs:s.length<=100000000):
  ∃r h' a,ayU [c,X i 0] h=D r h'/\r=ayq w.len (YU 0 [] false false)/\Bd b h' i 5 t a (s++apb w.len [42,32,67,65,80,65,66,73,76,73,84,89,32,73,77,65,80,52,114,101,118,49,32,76,73,84,69,82,65,76,43,32,85,73,68,80,76,85,83,32,77,79,86,69,32,67,79,78,68,83,84,79,82,69])/\Stp (OfB i 5 L) h (OfB i 5 a) h'/\(∀k,k≠5->k≠6->a[k]?=L[k]?)/\a.length=L.length:=by
 obtain⟨m,f⟩:∃m,m=h.new (O (N tA true) [Y U 0,H [],K false,K false,K false]):=⟨_,rfl⟩
 have C:Ch (λ_=>False) h m:=by rw[f];exact Ch.new _ _ _
 have E:m.get h.next=some (O (N tA true) [Y U 0,H [],K false,K false,K false]):=by rw[f];exact dR _ _
 have n1:m.next.nat=h.next.nat+1:=by rw[f,bD]
 have v:=d.ch C λ_ _ _ q=>q;have B:aF (X i 3) m=D vw m:=by rw[CW v.get];simp only[M]
 have no:∀{l:List V},OfB i 5 L h.next->False:=λo=>by have:=(o.from d _).2;omega
 have fin:∀{p:Hp} {l:List V},Stp (OfB i 5 L) h (OfB i 5 l) p->∀o,Stp (OfB i 5 L) h (OfB i 5 l) (p.put h.next o):=λg o=>⟨g.ch.trans (Ch.put (S:=λj=>j=h.next) _ _ rfl) λj W q=>by rw[q]at W;omega,g.sub⟩
 have u:Stp (OfB i 5 L) h (OfB i 5 L) m:=(Stp.refl _ _).step C λ_ q=>q.elim;rw[aDH]
 suffices Q:aX e! [.cell 4 tA] (λr h'=>∃a,r=ayq w.len (YU 0 [] false false)/\Bd b h' i 5 t a (s++apb w.len [42,32,67,65,80,65,66,73,76,73,84,89,32,73,77,65,80,52,114,101,118,49,32,76,73,84,69,82,65,76,43,32,85,73,68,80,76,85,83,32,77,79,86,69,32,67,79,78,68,83,84,79,82,69])/\Stp (OfB i 5 L) h (OfB i 5 a) h'/\(∀k,k≠5->k≠6->a[k]?=L[k]?)/\a.length=L.length) (ak7 (T.set (some (X i 0)) (d! 1) T.nil) h) by
  obtain⟨r,h',e,a,q⟩:=Q;exact⟨r,h',a,e,q⟩
 by_cases z:w.len=0
 ·obtain⟨r2,p,I,e2,J,g,Z,n2⟩:=auL (el:=9) v [[42,32,67,65,80,65,66,73,76,73,84,89,32,73,77,65,80,52,114,101,118,49,32,76,73,84,69,82,65,76,43,32,85,73,68,80,76,85,83,32,77,79,86,69,32,67,79,78,68,83,84,79,82,69]] (n:=1) rfl (by omega) (by simp[iG]) (by simp) (.inl (k! _)) (by simp[dN];omega);have y:=(g.ch.get h.next (by omega) λo=>no (l:=L) o).trans E;simp only[List.map_cons,List.map_nil]at e2;simp(disch:=omega)only[vvB,a!,reduceCtorEq,↓reduceIte,ak7,amV,amU,axb,axa,aeE,<-f,B,WS.len G,z,pU,e2,axK,axl y];refine aX.ret (by simp only[bW,vvB,a!,reduceCtorEq,↓reduceIte,aeS,axX (jE _ _ _),bZ];rfl) ⟨I,?_,?_,fin (u.trans g) _,Z,n2⟩
  ·unfold ayq;rw[if_pos rfl]
  ·have x:=J.chO (Ch.put (S:=λj=>j=h.next) p (some (O (N tA true) (arz 0 [] false false))) rfl) λj o e=>by
    subst e;rcases g.sub _ o with o|o
    ·exact no (l:=L) o
    ·omega
   unfold apb;rw[if_pos rfl];simpa[dN]using x
 ·obtain⟨p,e2,g⟩:=aBr m;have y:=(g.get h.next (by omega) λq=>q).trans E;simp(disch:=omega)only[vvB,a!,reduceCtorEq,↓reduceIte,ak7,amV,amU,axc,aeE,<-f,B,WS.len G,e2,axl y];refine aX.ret (by simp only[bW,vvB,a!,reduceCtorEq,↓reduceIte,aeS,axX (jE _ _ _),bZ];rfl) ⟨L,?_,?_,fin (u.step g λ_ q=>q.elim) _,λ_ _ _=>rfl,rfl⟩
  ·unfold ayq;rw[if_neg z]
  ·have x:=(v.ch g λ_ _ _ q=>q).chO (Ch.put (S:=λj=>j=h.next) p (some (O (N tA true) (arz 2 [119,111,114,100,115] false false))) rfl) λj o e=>by
    subst e;exact no (l:=L) o
   unfold apb;rw[if_neg z];simpa using x
end Go.Proofs.Im
