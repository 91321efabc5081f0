/- Lemmas that the claim's last text uses. No conditions. -/
import Derived.Test.YtpgppmioigacoaaGreatDoorSAR
import Derived.Test.YtpgppmioigacoaaGreatDoorSAH
set_option linter.all false
set_option maxRecDepth 100000
open List renaming getElem?_set_ne→a!,getElem?_set_self→b!,getElem?_eq_some_iff→e!,getElem?_eq_getElem→g!,length_append→h!,take_length→i!,take_add_one→p!,mem_append→q!,length_nil→r!
open Go.Vm.Pos renaming of→c!
open Go.Proofs.Tryz renaming prog→d!
open Nat renaming le_refl→j!,add_zero→l!,lt_of_lt_of_le→o!,mul_le_mul→t!,zero_add→u!,beq_refl→v!,beq→w!
open Int renaming tdiv_eq_ediv_of_nonneg→k!,tdiv→n!,zero_add→x!
open Go.Vm.V renaming int→Y,ptr→X,bool→K,str→H
open Go.IntKind renaming i64→U
open Go.Vm.Ob renaming cells→O
open Go.Vm.Wr renaming rw→N
open Go.Vm.R renaming ok→D
noncomputable section
open Go Go.Proofs Go.Vm Go.Ln
namespace Go.Proofs.Im
theorem SS{s:List Nat}{h:Hp}(hl:s.length<1000000000)(I:∀c∈s,c<256):∃r h',yh [H s] h=D r h'/\r=H (foldM s)/\Ch (λ_=>False) h h':=by
 rw[aEF];show aW d! _ (λr h'=>r=H (foldM s)/\Ch (λ_=>False) h h') _;simp(disch:=omega)only[vvB,seval,avz,avt,avr,avq,atg];refine Oc.then (dW (n:=s.length) (λm fr g=>∃k rest,fr.get (c! 0)=some (H s)/\fr.get (c! 3)=some (.slice h.next 0 k (.kn s.length))/\fr.get (c! 10)=some (Y U (s.length:Int))/\fr.get (c! 11)=some (Y U (k:Int))/\
   k+m=s.length/\g.get h.next=some (O (N tB true) (bys (foldM (s.take k))++rest))/\rest.length=m/\Ch (λ_=>False) h g/\h.next.nat<g.next.nat)
  (A:=λfr g=>fr.get (c! 3)=some (.slice h.next 0 s.length (.kn s.length))/\∃rest,g.get h.next=some (O (N tB true) (bys (foldM s)++rest))/\Ch (λ_=>False) h g) (B:=λ_ _=>False) (by rw[dO];omega) ?_ ?_) ?_ ?_
 ·exact⟨0,times s.length [Y .u8 0],qK0,qK0,qK0,qK1,by omega,by simp[foldM,bys,dX],aCa _ _,Ch.new _ _ _,by rw[bI];omega⟩
 ·rintro m fr g ⟨k,rest,f0,f3,e,i,hk,o,v,f,W⟩;by_cases hz:m=0
  ·subst hz;have E:k=s.length:=by omega
   subst E;simp(disch:=omega)only[vvB,seval,UA,Uj,e,i];exact⟨rfl,qK2 f3,rest,by rw[i!]at o;exact o,f⟩
  ·have l:k<s.length:=by omega
   obtain⟨x,a,rfl⟩:∃x r,rest=x::r:=by
    cases rest with
    |nil=>simp at v;omega
    |cons x r=>exact⟨x,r,rfl⟩
   have P:=I s[k] (List.getElem_mem _);have w:∀h,kG (H s) (Y U (k:Int)) h=D (Y .u8 ((s[k]:Nat):Int)) h:=λh=>QB (g! l);generalize C:s[k]=c at P w;have Z:foldM (s.take (k+1))=foldM (s.take k)++ [Oz c]:=by
    rw[p!,g! l,C];simp[foldM]
   have G:(bys (foldM (s.take k))).length=k:=by rw[Ba];simp[foldM];omega
   have z:=λy:V=>aLX (el:=tB) (bt:=1) (y:=y) o G l W;have fin:∀g',g'=(g.new (O (N tB true) [Y .u8 ((Oz c:Nat):Int)])).put h.next (some (O (N tB true) (bys (foldM (s.take k))++Y .u8 ((Oz c:Nat):Int)::a)))->
     g'.get h.next=some (O (N tB true) (bys (foldM (s.take (k+1)))++a))/\Ch (λ_=>False) h g'/\h.next.nat<g'.next.nat:=by
    rintro g' rfl;refine⟨?_,?_,by rw[jI,bI];omega⟩
    ·rw[kL,Z,aaA];simp[bys]
    ·refine⟨by rw[jI,bI];have:=f.next;omega,λj Q S=>?_⟩;rw[RZ _ (by omega),new_ne _ (by have:=f.next;omega)];exact f.get j Q S
   by_cases L:65<=c
   ·by_cases M:c<=90
    ·have d:Oz c=c+32:=by unfold Oz;rw[if_pos ⟨L,M⟩]
     have J:∀h,aI .add .none (Y .u8 (c:Int)) (Y .u8 32) h=D (Y .u8 ((c+32:Nat):Int)) h:=λh=>aCw (b:=32) (by omega);rw[d]at fin;simp(disch:=omega)only[vvB,seval,UA,Uj,aa6,aa5,aa4,aa3,aa2,aa1,f0,f3,e,i,w,J,z];obtain⟨p,t,u⟩:=fin _ rfl;exact⟨m - 1,by omega,k+1,a,qK2 f0,qK0,qK2 e,qK1,by omega,p,by simp at v;omega,t,u⟩
    ·have d:Oz c=c:=by unfold Oz;rw[if_neg (by omega)]
     rw[d]at fin;simp(disch:=omega)only[vvB,seval,UA,Uj,aa6,aa5,aa4,aa3,aa2,aa1,f0,f3,e,i,w,z];obtain⟨p,t,u⟩:=fin _ rfl;exact⟨m - 1,by omega,k+1,a,qK2 f0,qK0,qK2 e,qK1,by omega,p,by simp at v;omega,t,u⟩
   ·have d:Oz c=c:=by unfold Oz;rw[if_neg (by omega)]
    rw[d]at fin;simp(disch:=omega)only[vvB,seval,UA,Uj,aa6,aa5,aa4,aa3,aa2,aa1,f0,f3,e,i,w,z];obtain⟨p,t,u⟩:=fin _ rfl;exact⟨m - 1,by omega,k+1,a,qK2 f0,qK0,qK2 e,qK1,by omega,p,by simp at v;omega,t,u⟩
 ·rintro fr g ⟨f3,rest,o,f⟩;have hb:=awS (n:=s.length) o (aFB I);rw[show(foldM s).length=s.length by simp[foldM]]at hb;simp(disch:=omega)only[vvB,seval,aqY,f3,hb];exact aW.ret (qT0) ⟨rfl,f⟩
 ·intro fr g q;exact q.elim
theorem aoO{s:List Nat}(h:Hp)(hl:s.length<1000000000)(a:∀c∈s,c<256):∃h',yh [H s] h=D (H (foldM s)) h'/\Ch (λ_=>False) h h':=by
 obtain⟨r,h',e,rfl,c⟩:=SS hl a;exact⟨h',e,c⟩
structure Bd (b:Nat) (h:Hp) (i:Pos) (q:Nat) (t:TypeId) (l:List V) (s:List Nat):Prop where
 hb:b<=i.nat
 hi:i.nat<h.next.nat
 get:h.get i=some (O (N t true) l)
 addr:l[q]?=some .bY\/l[q]?=some (X i q)
 buf:∃vb,l[q+1]?=some vb/\Ow b h tB 1 vb s.length (bys s)/\∀j,bC vb=some j->j≠i
 lies:liesAt d! d!.depth t (l.length / d!.cellsOf t) q tBd 1=true
theorem Bd.ch{b:Nat}{h h':Hp}{i:Pos}{q:Nat}{t:TypeId}{l:List V}{s:List Nat}{S:Pos->Prop}(d:Bd b h i q t l s)(c:Ch S h h')(f:∀j:Pos,b<=j.nat->j.nat<h.next.nat->¬S j):Bd b h' i q t l s:=by
 obtain⟨vb,g,a,k⟩:=d.buf;refine⟨d.hb,o! d.hi c.next,by rw[c.get i d.hi (f i d.hb d.hi)];exact d.get,d.addr,⟨vb,g,a.ch c λj e=>f j (a.eY e).1 (a.eY e).2,k⟩,d.lies⟩
theorem Rj(l:List V)(q:Nat)(v:V):(l.set q v).length=l.length:=by simp
theorem aup{b:Nat}{h:Hp}{i:Pos}{q:Nat}{t:TypeId}{l:List V}{s:List Nat}(d:Bd b h i q t l s):
  ∃r h',agD [X i q] h=D r h'/\Bd b h' i q t (l.set q (X i q)) s/\Ch (λj=>j=i) h h'/\h'.next=h.next:=by
 rw[aED];show aW d! _ (λr h'=>Bd b h' i q t (l.set q (X i q)) s/\Ch (λj=>j=i) h h'/\h'.next=h.next) _;have e:=d.get;rcases d.addr with c|c
 ·have f:aF (X i q) h=D .bY h:=by rw[CB e];simp only[c]
  have a:q<l.length:=(e!.1 c).1;have v:=aHM e c;have w:=aCU (P:=d!) (u:=tBd) e c d.lies;have p:=RU e (y:=X i q) ⟨rfl,rfl⟩ a;have o:awj [X i q] h=D (X i q) h:=rfl;simp(disch:=omega)only[vvB,seval,anI,akC,ave,l!,f,ahL,v,o,w,p];refine aW.nor (qT0) ⟨?_,Ch.put h _ rfl,rfl⟩;obtain⟨vb,x,z,g⟩:=d.buf;refine⟨d.hb,d.hi,kL _ _ _,.inr (by rw[b! a]),⟨vb,?_,z.ch (Ch.put (S:=λj=>j=i) h _ rfl) λj C=>g j C,g⟩,by rw[Rj];exact d.lies⟩;rw[a! (by omega)];exact x
 ·have f:aF (X i q) h=D (X i q) h:=by rw[CB e];simp only[c]
  have a:q<l.length:=(e!.1 c).1;simp(disch:=omega)only[vvB,seval,anI,akC,avd,l!,f,fD,asX (n:=2) rfl];have B:l.set q (X i q)=l:=by
   apply List.ext_getElem?;intro k;by_cases m:q=k
   ·subst m;rw[b! a,c]
   ·rw[a! m]
  rw[B];exact aW.nor (qT0) ⟨d,Ch.refl _ _,rfl⟩
def OfB(i:Pos)(q:Nat)(l:List V)(j:Pos):Prop:=j=i\/∃v,l[q+1]?=some v/\bC v=some j
theorem RI{b:Nat}{h:Hp}{i:Pos}{q:Nat}{ty:TypeId}{l:List V}{s:List Nat}(d:Bd b h i q ty l s)(t:List Nat)(S:s.length+t.length<=1000000000):
  ∃r h' v,yg [X i q,H t] h=D r h'/\Bd b h' i q ty v (s++t)/\Stp (OfB i q l) h (OfB i q v) h'/\(∀k,k≠q->k≠q+1->v[k]?=l[k]?)/\v.length=l.length:=by
 obtain⟨r1,u,e1,f,G,W⟩:=aup d;obtain⟨vb,b1,b2,w⟩:=f.buf;obtain⟨n,m,e2,B,x,i2⟩:=aIi (bt:=1) (t:=t) b2 (by have:=f.hb;have:=f.hi;omega) (by omega);have g:q+1<(l.set q (X i q)).length:=(e!.1 b1).1;have C:aF (X i (q+1)) u=D vb u:=by rw[CB f.get];simp only[b1]
 have I:m.get i=some (O (N ty true) (l.set q (X i q))):=by rw[x.get i f.hi λc=>w i c rfl];exact f.get
 have E:=RU I (y:=n) B.cell g;have z:Ch (λj=>j=i) m (m.put i (some (O (N ty true) ((l.set q (X i q)).set (q+1) n)))):=Ch.put m _ rfl;refine⟨.tuple (.cons (Y U (t.length:Int)) (.cons .oH .nil)),m.put i (some (O (N ty true) ((l.set q (X i q)).set (q+1) n))),(l.set q (X i q)).set (q+1) n,?_,?_,?_,λk Q J=>by rw[a! (by omega),a! (by omega)],by simp⟩
 ·rw[aEE];simp(disch:=omega)only[vvB,seval,avy,avp,avo,avn,avm,e1,C,e2,E];simp only[aU,cO,vvB,seval,dn];rfl
 ·refine⟨d.hb,by rw[jI];have:=f.hi;have:=x.next;omega,kL _ _ _,.inr ?_,⟨n,?_,?_,?_⟩,by rw[Rj];exact f.lies⟩
  ·rw[a! (by omega),b! (by simp at g;omega)]
  ·rw[b! g]
  ·have P:=B.ch z λj c=>by
    rcases i2 j c with a|a
    ·exact w j a
    ·intro e;rw[e]at a;have:=f.hi;omega
   rw[h!];exact P
  ·intro j c;rcases i2 j c with a|a
   ·exact w j a
   ·intro e;rw[e]at a;have:=f.hi;omega
 ·have o:l[q+1]?=some vb:=by rw[a! (by omega)]at b1;exact b1
  have L:Stp (OfB i q l) h (OfB i q l) u:=⟨G.mono λj _ e=>.inl e,λ_ q=>.inl q⟩
  have M:Stp (OfB i q l) u (OfB i q ((l.set q (X i q)).set (q+1) n)) m:=⟨x.mono λj _ c=>.inr ⟨vb,o,c⟩,λj c=>by
   rcases c with c|⟨v2,p,c⟩
   ·exact .inl (.inl c)
   ·rw[b! g]at p;cases p;rcases i2 j c with a|a
    ·exact .inl (.inr ⟨vb,o,a⟩)
    ·exact .inr a⟩
  exact(L.trans M).step z λj e=>.inl e
theorem OfB.from{b:Nat}{h:Hp}{i:Pos}{q:Nat}{t:TypeId}{l:List V}{s:List Nat}(d:Bd b h i q t l s)(j:Pos)(o:OfB i q l j):b<=j.nat/\j.nat<h.next.nat:=by
 rcases o with rfl|⟨v,a,c⟩
 ·exact⟨d.hb,d.hi⟩
 ·obtain⟨vb,b1,b2,e⟩:=d.buf;rw[b1]at a;cases a;exact b2.eY c
theorem Bd.chO{b:Nat}{h h':Hp}{i:Pos}{q:Nat}{t:TypeId}{l:List V}{s:List Nat}{S:Pos->Prop}(d:Bd b h i q t l s)(c:Ch S h h')(e:∀j:Pos,OfB i q l j->¬S j):Bd b h' i q t l s:=by
 obtain⟨vb,a,f,g⟩:=d.buf;refine⟨d.hb,o! d.hi c.next,by rw[c.get i d.hi (e i (.inl rfl))];exact d.get,d.addr,⟨vb,a,f.ch c λj k=>e j (.inr ⟨vb,a,k⟩),g⟩,d.lies⟩
theorem ajO{b:Nat}{h:Hp}{i:Pos}{q:Nat}{ty:TypeId}{l:List V}{s:List Nat}(d:Bd b h i q ty l s)(t:List Nat)(g:s.length+t.length<=1000000000):
  ∃r h' a,yg [X i q,H t] h=D r h'/\Bd b h' i q ty a (s++t)/\Ch (λj=>b<=j.nat) h h'/\(∀k,k≠q->k≠q+1->a[k]?=l[k]?)/\a.length=l.length:=by
 obtain⟨r,h',a,e,f,c,k,n⟩:=RI d t g;exact⟨r,h',a,e,f,c.ch.mono λj _ o=>(o.from d j).1,k,n⟩
theorem ad8{b:Nat}{h:Hp}{i:Pos}{q:Nat}{t:TypeId}{l:List V}{s:List Nat}(d:Bd b h i q t l s)(h0:s≠ [])(w:∀c∈s,c<256)(hl:s.length<=1000000000):
  ∃h',Jm [X i q] h=D (H s) h'/\Ch (λj=>OfB i q l j/\j≠i) h h'/\h'.next=h.next:=by
 obtain⟨vb,b1,b2,o⟩:=d.buf;have a:aF (X i (q+1)) h=D vb h:=by rw[CB d.get];simp only[b1]
 have k:aZ 2 vb h=D (Y U (s.length:Int)) h:=b2.sl.length;have e:0<s.length:=by cases s with|nil=>exact absurd rfl h0|cons _ _=>simp
 rcases b2.is with⟨y,_⟩|⟨j,rfl,r,u,f,p⟩
 ·omega
 ·obtain⟨m,v⟩:∃m,s.length=m+1:=⟨s.length - 1,by omega⟩
  have g:AQ (.slice j 0 s.length (.un 1)) h=D (X j 0) h:=by rw[v];rfl
  have n:=aso p w (by omega) h0;have x:eqV (V.slice j 0 s.length (.un 1)) (V.slice j 0 s.length (.un 1))=true:=by
   show(match j.eq j,w! 0 0,w! s.length s.length with
    |true,true,true=>w! 1 1
    |_,_,_=>false)=true
   rw[Pos.eq_self,v!,v!];rfl
  refine⟨h.put j (some (O .ro (bys s))),?_,Ch.put h _ ⟨.inr ⟨_,b1,rfl⟩,o j rfl⟩,rfl⟩;rw[aq9];simp(disch:=omega)only[vvB,seval,anM,akH,akG,a,k,g,n,Kz (m:=λh=>aF (X i (q+1)) h) a x];simp only[aU,cO,vvB,seval,dn]
theorem aCd{b:Nat}{h:Hp}{i:Pos}{q:Nat}{t:TypeId}{l:List V}{s:List Nat}(d:Bd b h i q t l s)(h0:s≠ [])(a:∀c∈s,c<256)(hl:s.length<=1000000000):
  ∃h',Jm [X i q] h=D (H s) h'/\Ch (λj=>b<=j.nat/\j≠i) h h'/\h'.next=h.next:=by
 obtain⟨h',e,c,n⟩:=ad8 d h0 a hl;exact⟨h',e,c.mono λj _ o=>⟨(o.1.from d j).1,o.2⟩,n⟩
theorem aFx{b:Nat}{h:Hp}{i:Pos}{q:Nat}{t:TypeId}{l:List V}(d:Bd b h i q t l [])(a:l[q+1]?=some .aO)(n:Nat)(h0:0<n)(E:n<=1000000000):
  ∃r h' o,an9 [X i q,Y U (n:Int)] h=D r h'/\Bd b h' i q t o []/\Ch (λj=>b<=j.nat) h h'/\o.length=l.length/\(∀k,k≠q->k≠q+1->o[k]?=l[k]?):=by
 have f:aF (X i (q+1)) h=D .aO h:=by rw[CB d.get];simp only[a]
 have c:q+1<l.length:=(e!.1 a).1;have p:(h.new (O (N tB false) [])).get i=some (O (N t true) l):=by rw[new_ne h (by have:=d.hi;omega)];exact d.get
 have s:aF (X i (q+1)) (h.new (O (N tB false) []))=D .aO (h.new (O (N tB false) [])):=by rw[CB p];simp only[a]
 have w:=RU p (y:=.slice h.next 0 0 (.un 1)) ⟨rfl,rfl⟩ c;have v:awi [Y U (n:Int)] h=D (.slice h.next 0 n (.un 1)) (h.new (O (N tB false) [])):=aCx (by omega);have u:aI .mul .none (Y U 2) (Y U 0) h=D (Y U 0) h:=rfl;have x:Ch (λj=>b<=j.nat) h (h.new (O (N tB false) [])):=Ch.new _ _ _;have z:Ch (λj=>j=i) (h.new (O (N tB false) [])) ((h.new (O (N tB false) [])).put i (some (O (N t true) (l.set (q+1) (.slice h.next 0 0 (.un 1)))))):=Ch.put _ _ rfl;refine⟨.tuple .nil,(h.new (O (N tB false) [])).put i (some (O (N t true) (l.set (q+1) (.slice h.next 0 0 (.un 1))))),l.set (q+1) (.slice h.next 0 0 (.un 1)),?_,?_,x.trans (z.mono λj _ e=>by rw[e];exact d.hb) (λ_ _ q=>q),by simp,λk _ C=>by rw[a! (by omega)]⟩
 ·rw[aEC];simp(disch:=omega)only[vvB,seval,avx,avc,avb,ava,f,s,aer,UY,u,x!,v,w,aAE,aAJ,ayB (m:=λh=>aF (X i (q+1)) h) f f (show eqV V.aO V.aO=true from rfl)];simp only[aU,cO,seval,dn];rfl
 ·refine⟨d.hb,by rw[jI,bI];have:=d.hi;omega,kL _ _ _,?_,⟨.slice h.next 0 0 (.un 1),by rw[b! c],⟨by simp[bys],.inr ⟨h.next,rfl,by have:=d.hb;have:=d.hi;omega,by rw[jI,bI];omega,false,?_⟩⟩,?_⟩,by rw[Rj];exact d.lies⟩
  ·rcases d.addr with g|g
   ·left;rw[a! (by omega)];exact g
   ·right;rw[a! (by omega)];exact g
  ·rw[RZ _ (by have:=d.hi;omega),dX];rfl
  ·intro j B e;cases B;have:=d.hi;rw[<-e]at this;omega
theorem aH0{b:Nat}{h:Hp}{i:Pos}{q:Nat}{t:TypeId}{l:List V}(d:Bd b h i q t l [])(c:l[q+1]?=some .aO)(n:Nat)(B:n<=1000000000):
  ∃r h' s,aoa [X i q,Y U (n:Int)] h=D r h'/\Bd b h' i q t s []/\Ch (λj=>b<=j.nat) h h'/\s.length=l.length/\(∀k,k≠q->k≠q+1->s[k]?=l[k]?):=by
 obtain⟨r1,g,e1,o,w,J⟩:=aup d;have a:(l.set q (X i q))[q+1]?=some .aO:=by rw[a! (by omega)];exact c
 have f:aF (X i (q+1)) g=D .aO g:=by rw[CB o.get];simp only[a]
 have v:Ch (λj=>b<=j.nat) h g:=w.mono λj _ e=>by rw[e];exact d.hb
 have I:= @Kz (λh=>aF (X i (q+1)) h) V.aO;by_cases h0:n=0
 ·refine⟨.tuple .nil,g,l.set q (X i q),?_,o,v,by simp,λk u _=>by rw[a! (by omega)]⟩;rw[aq8];simp(disch:=omega)only[vvB,seval,anK,akF,akE,akD,e1,f,aer,UY,Kz (m:=λh=>aF (X i (q+1)) h) f (show eqV V.aO V.aO=true from rfl)];simp only[aU,cO,seval,dn];rfl
 ·obtain⟨r2,z,C,e2,y,x,E,G⟩:=aFx o a n (by omega) B;refine⟨.tuple .nil,z,C,?_,y,v.trans x λ_ _ q=>q,by rw[E];simp,λk u p=>by rw[G k u p,a! (by omega)]⟩;rw[aq8];simp(disch:=omega)only[vvB,seval,anK,akF,akE,akD,avf,e1,e2,f,aer,UY,Kz (m:=λh=>aF (X i (q+1)) h) f (show eqV V.aO V.aO=true from rfl)];simp only[aU,cO,seval,dn];rfl
theorem strs_get{l:List (List Nat)}{k:Nat}{a:List Nat}(e:l[k]?=some a):(l.map H)[k]?=some (H a):=by rw[List.getElem?_map,e];rfl
theorem ayf:liesAt d! d!.depth tBd (2 / d!.cellsOf tBd) 0 tBd 1=true:=kR
theorem aHN(h:Hp):fE tBd [.bY,.aO] h=D (X h.next 0) (h.new (O (N tBd true) [.bY,.aO])):=(rfl)
theorem take_snoc{α:Type}{l:List α}{k:Nat}{a:α}(e:l[k]?=some a):l.take (k+1)=l.take k++ [a]:=by rw[p!,e];rfl
theorem aak{c:Nat}{h:Hp}{v:V}{l:List (List Nat)}{sep:List Nat}(s:Sl c h 1 v l.length (l.map H))(ag:yN 1 v)(hc:c<=h.next.nat)(hn:l.length<=1000000)(hs:sep.length<=100)(ht:iU l<=100000000)
  (hb:∀t∈l,∀c∈t,c<256) (an:∀c∈sep,c<256) (C:l.length<=1\/dV sep l≠ []):
  ∃r h',abU [v,H sep] h=D r h'/\r=H (dV sep l)/\Ch (λ_=>False) h h':=by
 rw[aGX];show aW d! _ (λr h'=>r=H (dV sep l)/\Ch (λ_=>False) h h') _;have sl:∀h',aZ 2 v h'=D (Y U (l.length:Int)) h':=λh'=>s.length;cases l with
 |nil=>
  simp(disch:=omega)only[vvB,seval,ahj,Zo,Zn,Zm,azN,sl,r!,show((0:Nat):Int)=0 from rfl];exact aW.ret (qT0) ⟨rfl,Ch.refl _ _⟩
 |cons a r=>
 obtain⟨i0,q0,x0,ai,e0,av,l0⟩:=s.at1 (m:=0) (by simp);rw[strs_get (show(a::r)[0]?=some a from rfl)]at ai;cases ai;cases r with
 |nil=>
  have L:∀h',aX 1 v (Y U 0) h'=D (X i0 q0) h':=e0;simp(disch:=omega)only[vvB,seval,ahj,Zo,Zn,Zm,ahh,azM,sl,List.length_cons,r!,show((1:Nat):Int)=1 from rfl,L,l0 h rfl];exact aW.ret (r:=H (dV sep [a])) (qT0) ⟨rfl,Ch.refl _ _⟩
 |cons a2 r2=>
 generalize am:a2::r2=b at*;have aD:1<=b.length:=by rw[<-am];simp
 have o:(a::b).length=b.length+1:=by simp
 rw[o]at sl hn;have d:((b.length+1:Nat):Int)=(b.length:Int)+1:=by omega
 rw[d]at sl;have aE:iU (a::b)=a.length+iU b:=by simp[iU]
 obtain⟨E,G⟩:∃E,E=sep.length*b.length:=⟨_,rfl⟩
 have hw:E<=100000000:=by rw[G];exact Nat.le_trans (t! hs (show b.length<=1000000 by omega)) (by omega)
 have z:(sep.length:Int)*((b.length:Int)+1 - 1)=(E:Int):=by
  rw[G,show(b.length:Int)+1 - 1=(b.length:Int) by omega];simp
 have Z:sep.length=0->E=0:=λe=>by rw[G,e,Nat.zero_mul]
 have ax:(1000:Int)<=n! 9223372036854775807 ((b.length:Int)+1 - 1):=by
  rw[k! (by omega)];exact Int.le_ediv_of_mul_le (by omega) (by omega)
 have ay:n! 9223372036854775807 ((b.length:Int)+1 - 1)<=9223372036854775807:=by
  rw[k! (by omega)];exact Int.ediv_le_self _ (by omega)
 have qu:∀h',aI .quo .none (Y U 9223372036854775807) (Y U ((b.length:Int)+1 - 1)) h'=D (Y U (n! 9223372036854775807 ((b.length:Int)+1 - 1))) h':=λh'=>atn (by omega) (by omega) (by omega);have mu:∀h',aI .mul .none (Y U (sep.length:Int)) (Y U ((b.length:Int)+1 - 1)) h'=D (Y U (E:Int)) h':=λh'=>by rw[atp (by rw[z];omega) (by rw[z];omega),z]
 generalize az:n! 9223372036854775807 ((b.length:Int)+1 - 1)=qq at*;have I:∀fr,fr.get (c! 0)=some v->fr.get (c! 1)=some (H sep)->fr.get (c! 5)=some (Y U (E:Int))->
   aW d! [.tmp 4] (λr h'=>r=H (dV sep (a::b))/\Ch (λ_=>False) h h') (qQ (qQ (aky fr h) (bG 1 (dH abG lf))) (aB akw (aB akv (aB aku (aB (aB akt (bG 3 (dH abE lf))) (aB akr Out.ret)))))):=by
  intro fr f0 f1 P;simp(disch:=omega)only[vvB,seval,aky,f0,sl];refine Oc.then (dW (n:=b.length+1) (λm fr g=>∃k:Nat,fr.get (c! 0)=some v/\fr.get (c! 1)=some (H sep)/\fr.get (c! 39)=some v/\fr.get (c! 40)=some (Y U ((b.length:Int)+1))/\fr.get (c! 41)=some (Y U (k:Int))/\
    fr.get (c! 5)=some (Y U ((E+iU ((a::b).take k):Nat):Int))/\k+m=b.length+1/\g=h)
   (A:=λfr g=>fr.get (c! 0)=some v/\fr.get (c! 1)=some (H sep)/\fr.get (c! 5)=some (Y U ((E+iU (a::b):Nat):Int))/\g=h) (B:=λ_ _=>False) (by rw[dO];omega) ?_ ?_) ?_ ?_
  ·exact⟨0,qK2 f0,qK2 f1,qK0,qK0,qK1,by simp only[vvB,seval,P];simp[iU],by omega,rfl⟩
  ·rintro m fr g ⟨k,f0,f1,ac,M,ad,P,hk,rfl⟩;by_cases hz:m=0
   ·simp(disch:=omega)only[vvB,seval,abG,akx,M,ad];have W:k=(a::b).length:=by rw[o];omega
    rw[W,i!]at P;exact⟨rfl,qK2 f0,qK2 f1,qK2 P,rfl⟩
   ·have w:k<(a::b).length:=by rw[o];omega
    obtain⟨i,q,x,p,e1,-,e2⟩:=s.at1 w;obtain⟨t,f⟩:∃t,(a::b)[k]?=some t:=⟨_,g! w⟩
    rw[strs_get f]at p;cases p;have ah:=aAm ((a::b).take k) t;rw[<-take_snoc f]at ah;have aw:=alu (a::b) (k+1);simp(disch:=omega)only[vvB,seval,abG,akx,au8,au7,au6,au5,P,ac,M,ad,e1,e2 g rfl];exact⟨m - 1,by omega,k+1,qK2 f0,qK2 f1,qK2 ac,qK2 M,qK1,by simp only[vvB,seval];rw[ah];congr 2;omega,by omega,rfl⟩
  ·rintro fr g ⟨f0,f1,P,rfl⟩;have d0:Bd g.next.nat (g.new (O (N tBd true) [.bY,.aO])) g.next 0 tBd [.bY,.aO] []:=
    ⟨j! _,by rw[bI];omega,dX _ _,.inl rfl,⟨.aO,rfl,Ow.nil _ _ _ _,λj S=>(by cases S)⟩,ayf⟩
   obtain⟨r3,h3,l3,e3,d3,c3,n3,-⟩:=aH0 d0 rfl (E+iU (a::b)) (by omega);have aa:Ch (λj=>g.next.nat<=j.nat) g h3:=(Ch.new (λj=>g.next.nat<=j.nat) g _).trans c3 λ_ _ q=>q;obtain⟨r4,h4,l4,e4,d4,c4,-,n4⟩:=ajO d3 a (by simp;omega);have ab:=aa.trans c4 λ_ _ q=>q;obtain⟨v',es,s',au,-⟩:=s.from ag (by omega) (lo:=1) (by simp);have s4:∀{g'},Ch (λj=>g.next.nat<=j.nat) g g'->Sl c g' 1 v' b.length (b.map H):=λc=>by
    have:=s'.ch c hc λj S=>by have:=s'.eY S;omega
    simpa using this
   have L0:aF (X i0 q0) h3=D (H a) h3:=l0 h3 (aa.get i0 (by omega) (by omega));have L:∀h',aX 1 v (Y U 0) h'=D (X i0 q0) h':=e0;have aj:∀h',eU 1 v (some (Y U 1)) none none h'=D v' h':=es;have ar:∀h',aZ 2 v' h'=D (Y U (b.length:Int)) h':=λh'=>(s4 ab).length;simp(disch:=omega)only[vvB,seval,akw,akv,aku,akt,f0,P,e3,L,L0,e4,aj,ar];refine Oc.then (dW (n:=b.length) (λm fr g'=>∃(k:Nat) (lb:List V),fr.get (c! 1)=some (H sep)/\fr.get (c! 8)=some (X g.next 0)/\fr.get (c! 63)=some v'/\fr.get (c! 64)=some (Y U (b.length:Int))/\fr.get (c! 65)=some (Y U (k:Int))/\
     k+m=b.length/\Bd g.next.nat g' g.next 0 tBd lb (a++yM sep (b.take k))/\Ch (λj=>g.next.nat<=j.nat) g g')
    (A:=λfr g'=>fr.get (c! 8)=some (X g.next 0)/\∃lb,Bd g.next.nat g' g.next 0 tBd lb (dV sep (a::b))/\Ch (λj=>g.next.nat<=j.nat) g g') (B:=λ_ _=>False) (by rw[dO];omega) ?_ ?_) ?_ ?_
   ·exact⟨0,l4,qK2 f1,qK0,qK0,qK0,qK1,by omega,by simpa[yM]using d4,ab⟩
   ·rintro m fr g' ⟨k,lb,f1,f8,ae,Q,af,hk,db,J⟩;by_cases hz:m=0
    ·simp(disch:=omega)only[vvB,seval,abE,aks,Q,af];have W:k=b.length:=by omega
     rw[W,i!,<-AV]at db;exact⟨rfl,qK2 f8,lb,db,J⟩
    ·have w:k<b.length:=by omega
     obtain⟨i,q,x,p,e1,-,e2⟩:=(s4 J).at1 w;obtain⟨t,f⟩:∃t,b[k]?=some t:=⟨_,g! w⟩
     rw[strs_get f]at p;cases p;have u:(a++yM sep (b.take (k+1))).length<=900000000:=by
      rw[h!,aeE];have h1:=alu b (k+1);have h2:sep.length*(b.take (k+1)).length<=100*1000000:=t! hs (by rw[List.length_take];omega);omega
     rw[take_snoc f,alX]at u;obtain⟨r5,h5,l5,e5,d5,c5,-,-⟩:=ajO db sep (by simp at u⊢;omega);obtain⟨r6,h6,l6,e6,d6,c6,-,-⟩:=ajO d5 t (by simp at u⊢;omega);simp(disch:=omega)only[vvB,seval,abE,aks,au4,au3,au2,au1,f1,f8,ae,Q,af,e1,e2 g' rfl,e5,e6];refine⟨m - 1,by omega,k+1,l6,qK2 f1,qK2 f8,qK2 ae,qK2 Q,qK1,by omega,?_,(J.trans c5 λ_ _ q=>q).trans c6 λ_ _ q=>q⟩;rw[take_snoc f,alX];simpa using d6
   ·rintro fr g' ⟨f8,lb,db,J⟩;have S:dV sep (a::b)≠ []:=by
     rcases C with C|C
     ·rw[o]at C;omega
     ·exact C
    have al:(dV sep (a::b)).length<=1000000000:=by
     have e3:=aeE sep b;rw[AV,h!,e3,<-G];omega
    have ak:∀c∈dV sep (a::b),c<256:=by
     intro x p;rw[AV,q!]at p;rcases p with p|p
     ·exact hb a (by simp) x p
     ·unfold yM at p;obtain⟨y,hy,aq⟩:=List.mem_flatten.1 p;obtain⟨t,ap,rfl⟩:=List.mem_map.1 hy;rcases q!.1 aq with q|q
      ·exact an x q
      ·exact hb t (by simp[ap]) x q
    obtain⟨h7,e7,c7,-⟩:=aCd db S ak al;simp(disch:=omega)only[vvB,seval,akr,f8,e7];refine aW.ret (r:=H (dV sep (a::b))) (qT0) ⟨rfl,?_⟩;exact⟨by have:=J.next;have:=c7.next;omega,λj S hn=>(c7.get j (by have:=J.next;omega) (by omega)).trans (J.get j S (by omega))⟩
   ·intro fr g q;exact q.elim
  ·intro fr g q;exact q.elim
 by_cases ao:sep.length=0
 ·have:=Z ao;simp(disch:=omega)only[vvB,seval,ahj,Zo,Zn,Zm,ahh,apq,apo,sl];exact I _ (qK0) (qK0) (by simp only[vvB,seval];rw[this];rfl)
 ·simp(disch:=omega)only[vvB,seval,ahj,Zo,Zn,Zm,ahh,apq,apo,azL,au9,sl,qu,mu];simp only[x!];exact I _ (qK0) (qK0) (qK0)
end Go.Proofs.Im
namespace Go.Vm
section
variable{h:Hp}
def aeL(k:Int)(t:List Nat)(last bare:Bool):V:=.agg (.cons (Y U k) (.cons (H t) (.cons (K last) (.cons (K bare) (.cons (K false) .nil)))))
def auA(k:Int)(t:List Nat)(last bare:Bool):List V:= [Y U k,H t,K last,K bare,K false]
theorem aAK(k:Int)(s:List Nat):bU [Y U 0,H [],K false,K false,K false] [(0,1,Y U k),(1,1,H s)] h=D (aeL k s false false) h:=(rfl)
theorem aAL:bU [Y U 0,H [],K false,K false,K false] [] h=D (aeL 0 [] false false) h:=(rfl)
theorem aot(t:TypeId):fE t [Y U 0,H [],K false,K false,K false] h=D (X h.next 0) (h.new (O (N t true) [Y U 0,H [],K false,K false,K false])):=(rfl)
theorem aEZ{i:Pos}{t:TypeId}{f:Bool}{x y z u v:V}{k:Int}{s:List Nat}{a b:Bool}(c:h.get i=some (O (N t f) [x,y,z,u,v])):aQ 5 (X i 0) (aeL k s a b) h=D V.undef (h.put i (some (O (N t f) (auA k s a b)))):=by
 rw[wP c rfl rfl];rfl
theorem aFr{i:Pos}{wr:Wr}{k:Int}{s:List Nat}{a b:Bool}(c:h.get i=some (O wr (auA k s a b))):bT 5 (X i 0) h=D (aeL k s a b) h:=by
 show dQ h i (λ_ cs=>match gQ 5 (eP 0 cs) with|some l=>R.ok (V.agg (V.ofList l)) h|none=>.bad)=_;rw[dL (wr:=wr) (all:=auA k s a b) (by rw[c];rfl)];rfl
theorem ag0(h:Hp)(o o':Ob):Ch (λ_=>False) h ((h.new o).put h.next (some o')):=
 (Ch.new (λ_=>False) h o).trans (Ch.put (S:=λj=>j=h.next) _ _ rfl) λj a q=>by rw[q]at a;omega
end
end Go.Vm
namespace Go.Ln
theorem Wds.aoL:∀{ws:Wds} {k:Nat},k<ws.len->∃w,ws.get? k=some w
 | .nil,_,h=>absurd h (by simp[Wds.len])
 | .cons k t ks _,0,_=>⟨_,rfl⟩
 | .cons _ _ _ r,n+1,h=>by simp only[Wds.len]at h;exact Wds.aoL (ws:=r) (k:=n) (by omega)
def Wds.drop:Wds->Nat->Wds
 |w,0=>w
 | .nil,_+1=>.nil
 | .cons _ _ _ r,n+1=>r.drop n
theorem Wds.len_drop:∀{ws:Wds} {k:Nat},(ws.drop k).len=ws.len - k
 | .nil,0=>rfl
 | .nil,k+1=>by simp[Wds.drop,Wds.len]
 | .cons _ _ _ _,0=>rfl
 | .cons _ _ _ r,k+1=>by simp only[Wds.drop,Wds.len];rw[Wds.len_drop (ws:=r)];omega
theorem Wds.sV:∀{ws:Wds} {k m:Nat},(ws.drop k).get? m=ws.get? (k+m)
 | .nil,0,m=>by simp[Wds.drop]
 | .nil,k+1,m=>by simp[Wds.drop,Wds.get?]
 | .cons _ _ _ _,0,m=>by simp[Wds.drop]
 | .cons _ _ _ r,k+1,m=>by rw[show k+1+m=(k+m)+1 by omega];simp only[Wds.drop,Wds.get?];exact Wds.sV
theorem WAt.drop{P:Pos->Prop}{h:Hp}:∀{ws:Wds} {cs:List V} {k:Nat},WAt P h ws cs->WAt P h (ws.drop k) (cs.drop (k*3))
 | .nil,_,0,w=>w
 | .nil,cs,k+1,w=>by rw[show cs= [] from w];simp[Wds.drop,WAt]
 | .cons _ _ _ _,_,0,w=>by simpa[Wds.drop]using w
 | .cons _ _ _ r,_,k+1,⟨vk,c,cr,e,o,p,a,b⟩=>by
  rw[e,show(k+1)*3=3+k*3 by omega,<-List.drop_drop];exact WAt.drop (ws:=r) b
def WS(P:Pos->Prop)(h:Hp)(v:V)(ws:Wds):Prop:=∃cs,Sl h.next.nat h 3 v ws.len cs/\yN 3 v/\(∀j,bC v=some j->P j)/\WAt P h ws cs
theorem Tj.ws{P:Pos->Prop}{h:Hp}{v:V}{ws:Wds}(t:Tj P h v ws):WS P h v ws:=by
 obtain⟨cs,o,p,a⟩:=t;refine⟨cs,o.sl,?_,p,a⟩;intro i q n c e;rcases o.is with⟨_,b⟩|⟨_,b,_⟩
 ·rw[b]at e;cases e
 ·rw[b]at e;cases e;rfl
theorem WS.ch{P P' S:Pos->Prop}{h h':Hp}{v:V}{ws:Wds}(t:WS P h v ws)(c:Ch S h h')(d:∀j:Pos,j.nat<h.next.nat->P j->P' j/\¬S j):WS P' h' v ws:=by
 obtain⟨cs,o,k,p,a⟩:=t;exact⟨cs,(o.ch c (j! _) λj b=>(d j (o.eY b) (p j b)).2).le c.next,k,λj b=>(d j (o.eY b) (p j b)).1,a.ch c d⟩
theorem WS.len{P:Pos->Prop}{h:Hp}{v:V}{ws:Wds}(t:WS P h v ws)(h':Hp):aZ 2 v h'=D (Y U (ws.len:Int)) h':=by
 obtain⟨cs,o,-⟩:=t;exact o.length
theorem WS.cell{P:Pos->Prop}{h:Hp}{v:V}{ws:Wds}(t:WS P h v ws):v.cells= [v]/\gW v=true:=by
 obtain⟨cs,o,-⟩:=t;exact o.cell
theorem WS.from{P:Pos->Prop}{h:Hp}{v:V}{ws:Wds}(t:WS P h v ws){k:Nat}(g:k<=ws.len):∃b,(∀h',eU 3 v (some (Y U (k:Int))) none none h'=D b h')/\WS P h b (ws.drop k):=by
 obtain⟨cs,o,c,p,a⟩:=t;obtain⟨b,e,s,d,i⟩:=o.from c (by omega) g;exact⟨b,e,cs.drop (k*3),by rw[Wds.len_drop];exact s,d,λj f=>p j (i j f),a.drop⟩
def QG(w:Wds)(k:Nat):Bool:=match w.get? k with|some x=>decide (x.kind=1)|none=>false
end Go.Ln
namespace Go.Proofs.Im
theorem aoS(x:V)(h:Hp):A7 d! tA x h=bT 5 x h:=kR
theorem WS.at{P:Pos->Prop}{h:Hp}{v:V}{ws:Wds}(t:WS P h v ws){k:Nat}{w:Wd}(e:ws.get? k=some w):
  ∃j q vk,(∀h',aX 3 v (Y U (k:Int)) h'=D (X j q) h')/\aF (X j q) h=D (Y U w.kind) h/\aF (X j (q+1)) h=D (H w.text) h/\aF (X j (q+2)) h=D vk h/\Tj P h vk w.kids:=by
 obtain⟨cs,o,-,i,x⟩:=t;have d:=Wds.Kq e;obtain⟨j,q,e1,-,e2⟩:=o.at d;obtain⟨a,b,vk,c,f⟩:=WAt.get x e;exact⟨j,q,vk,e1,e2 h rfl 0 _ (by omega) a,e2 h rfl 1 _ (by omega) b,e2 h rfl 2 _ (by omega) c,f⟩
theorem aLo{b c:Nat}{h:Hp}{i:Pos}{t:TypeId}{L:List V}{s:List Nat}{v:V}{l:List (List Nat)}(d:Bd b h i 5 t L s)(sl:Sl c h 1 v l.length (l.map H))(e:yN 1 v)(y:c<=h.next.nat)
  (B:l.length<=1000000) (C:iU l<=100000000) (hb:∀t∈l,∀c∈t,c<256) (z:l.length<=1\/dV [32] l≠ []) (S:s.length+(dV [32] l).length+2<=1000000000):
  ∃r h' f,zC [X i 0,v] h=D r h'/\Bd b h' i 5 t f (s++(dV [32] l++ [13,10]))/\Stp (OfB i 5 L) h (OfB i 5 f) h'/\(∀k,k≠5->k≠6->f[k]?=L[k]?)/\f.length=L.length:=by
 obtain⟨r1,P,e1,rfl,g⟩:=aak sl e y B (by simp) C hb (by simp) z;have o:=d.ch g λ_ _ _ q=>q;obtain⟨r2,Q,M,e2,p,m,E,I⟩:=RI o (dV [32] l) (by omega);obtain⟨W,x,j,w,u,n,G,J⟩:=RI p [13,10] (by simp;omega);rw[aG0];simp(disch:=omega)only[vvB,seval,aBH,azZ,azY,e1,e2,w];refine⟨_,x,j,rfl,by rw[<-List.append_assoc];exact u,(((Stp.refl (OfB i 5 L) h).step g λ_ q=>q.elim).trans m).trans n,λk a b=>(G k a b).trans (E k a b),J.trans I⟩
theorem aEO(h:Hp):∃h',abW [] h=D (aeL 2 [119,111,114,100,115] false false) h'/\Ch (λ_=>False) h h':=by
 rw[aG1];simp(disch:=omega)only[vvB,seval,aBI,az1,az0,aAK,aEZ (dX _ _)];exact⟨_,by simp only[aU,cO,vvB,seval,aoS,aFr (kL _ _ _),dn];rfl,ag0 _ _ _⟩
theorem aeF{P:Pos->Prop}{h:Hp}{v:V}{w:Wds}(t:WS P h v w)(k:Nat):DJ [v,Y U (k:Int)] h=D (K (QG w k)) h:=by
 rw[aEH];by_cases b:k<w.len
 ·obtain⟨x,a⟩:=Wds.aoL b;obtain⟨j,q,vk,e1,e2,c,d,e⟩:=WS.at t a;simp(disch:=omega)only[vvB,seval,anN,akM,akL,WS.len t,e1,e2,l!];simp only[aU,cO,vvB,seval,dn];unfold QG;rw[a]
 ·simp(disch:=omega)only[vvB,seval,anN,akM,akL,WS.len t];simp only[aU,cO,vvB,seval,dn];unfold QG;cases a:w.get? k with
  |none=>rfl
  |some x=>exact absurd (Wds.Kq a) b
end Go.Proofs.Im
namespace Go.Vm
section
variable{h:Hp}
theorem qo(t:TypeId)(a:List Nat):bJ t [H []] 1 [(0,1,H a)] h=D (.slice h.next 0 1 (.kn 1)) (h.new (O (N t true) [H a])):=(rfl)
theorem aow(t:TypeId)(a b:List Nat):bJ t [H [],H []] 2 [(0,1,H a),(1,1,H b)] h=D (.slice h.next 0 2 (.kn 2)) (h.new (O (N t true) [H a,H b])):=(rfl)
theorem aov(t:TypeId)(a b c d:List Nat):bJ t [H [],H [],H [],H []] 4 [(0,1,H a),(1,1,H b),(2,1,H c),(3,1,H d)] h=D (.slice h.next 0 4 (.kn 4)) (h.new (O (N t true) [H a,H b,H c,H d])):=(rfl)
theorem Sl.aHd{el:TypeId}{h:Hp}(l:List V){n:Nat}(a:l.length=n):Sl (h.next.nat+1) (h.new (O (N el true) l)) 1 (.slice h.next 0 n (.kn n)) n l:=⟨by omega,.inr ⟨h.next,0,_,N el true,l,rfl,by omega,by rw[dX];rfl,λk _=>by rw[u!]⟩⟩
theorem al9{i:Pos}{n:Nat}:yN 1 (.slice i 0 n (.kn n)):=λ_ _ _ _ e=>by cases e;exact j! _
end
end Go.Vm
namespace Go.Proofs.Im
def aBu(n:Nat)(v:V):V:=if n=0 then v else aeL 2 [119,111,114,100,115] false false
theorem axT{b:Nat}{h:Hp}{i:Pos}{t el:TypeId}{L:List V}{s:List Nat}(d:Bd b h i 5 t L s)(l:List (List Nat)){n:Nat}(o:l.length=n)(hl:n<=100)
  (u:iU l<=100000000) (hb:∀t∈l,∀c∈t,c<256) (m:n<=1\/dV [32] l≠ []) (p:s.length+(dV [32] l).length+2<=1000000000):
  ∃r h' a,zC [X i 0,.slice h.next 0 n (.kn n)] (h.new (O (N el true) (l.map H)))=D r h'/\Bd b h' i 5 t a (s++(dV [32] l++ [13,10]))/\Stp (OfB i 5 L) h (OfB i 5 a) h'/\(∀k,k≠5->k≠6->a[k]?=L[k]?)/\a.length=L.length:=by
 subst o;have f:Ch (λ_=>False) h (h.new (O (N el true) (l.map H))):=Ch.new _ _ _;obtain⟨r,h',a,e,j,g,v,w⟩:=aLo (d.ch f λ_ _ _ q=>q) (Sl.aHd (el:=el) (h:=h) (l.map H) (by simp)) al9 (by rw[bI];omega) (by omega) u hb m p;exact⟨r,h',a,e,j,((Stp.refl (OfB i 5 L) h).step f λ_ q=>q.elim).trans g,v,w⟩
def arR(n:Nat)(t:List Nat):List Nat:=if n=0 then t++ [13,10] else []
theorem aCZ{P:Pos->Prop}{b:Nat}{h:Hp}{i:Pos}{t:TypeId}{L:List V}{s:List Nat}{c vw:V}{w:Wds}(d:Bd b h i 5 t L s)(M:L[3]?=some vw)(G:WS P h vw w)(hs:s.length<=100000000):
  ∃r h' a,aB2 [c,X i 0] h=D r h'/\r=aBu w.len (aeL 0 [] false false)/\Bd b h' i 5 t a (s++arR w.len [42,32,67,65,80,65,66,73,76,73,84,89,32,73,77,65,80,52,114,101,118,49,32,76,73,84,69,82,65,76,43,32,85,73,68,80,76,85,83,32,77,79,86,69,32,67,79,78,68,83,84,79,82,69])/\Stp (OfB i 5 L) h (OfB i 5 a) h'/\(∀k,k≠5->k≠6->a[k]?=L[k]?)/\a.length=L.length:=by
 obtain⟨m,f⟩:∃m,m=h.new (O (N tA true) [Y U 0,H [],K false,K false,K false]):=⟨_,rfl⟩
 have C:Ch (λ_=>False) h m:=by rw[f];exact Ch.new _ _ _
 have E:m.get h.next=some (O (N tA true) [Y U 0,H [],K false,K false,K false]):=by rw[f];exact dX _ _
 have n1:m.next.nat=h.next.nat+1:=by rw[f,bI]
 have v:=d.ch C λ_ _ _ q=>q;have B:aF (X i 3) m=D vw m:=by rw[CB v.get];simp only[M]
 have no:∀{l:List V},OfB i 5 L h.next->False:=λo=>by have:=(o.from d _).2;omega
 have fin:∀{p:Hp} {l:List V},Stp (OfB i 5 L) h (OfB i 5 l) p->∀o,Stp (OfB i 5 L) h (OfB i 5 l) (p.put h.next o):=λg o=>⟨g.ch.trans (Ch.put (S:=λj=>j=h.next) _ _ rfl) λj W q=>by rw[q]at W;omega,g.sub⟩
 have u:Stp (OfB i 5 L) h (OfB i 5 L) m:=(Stp.refl _ _).step C λ_ q=>q.elim;rw[aG4]
 suffices Q:aW d! [.cell 4 tA] (λr h'=>∃a,r=aBu w.len (aeL 0 [] false false)/\Bd b h' i 5 t a (s++arR w.len [42,32,67,65,80,65,66,73,76,73,84,89,32,73,77,65,80,52,114,101,118,49,32,76,73,84,69,82,65,76,43,32,85,73,68,80,76,85,83,32,77,79,86,69,32,67,79,78,68,83,84,79,82,69])/\Stp (OfB i 5 L) h (OfB i 5 a) h'/\(∀k,k≠5->k≠6->a[k]?=L[k]?)/\a.length=L.length) (anJ (T.set (some (X i 0)) (c! 1) T.nil) h) by
  obtain⟨r,h',e,a,q⟩:=Q;exact⟨r,h',a,e,q⟩
 by_cases z:w.len=0
 ·obtain⟨r2,p,I,e2,J,g,Z,n2⟩:=axT (el:=9) v [[42,32,67,65,80,65,66,73,76,73,84,89,32,73,77,65,80,52,114,101,118,49,32,76,73,84,69,82,65,76,43,32,85,73,68,80,76,85,83,32,77,79,86,69,32,67,79,78,68,83,84,79,82,69]] (n:=1) rfl (by omega) (by simp[iU]) (by simp) (.inl (j! _)) (by simp[dV];omega);have y:=(g.ch.get h.next (by omega) λo=>no (l:=L) o).trans E;simp only[List.map_cons,List.map_nil]at e2;simp(disch:=omega)only[vvB,seval,anJ,apx,apw,aAa,az9,<-f,B,WS.len G,z,qo,e2,aAL,aEZ y];refine aW.ret (by simp only[cO,vvB,seval,aoS,aFr (kL _ _ _),dn];rfl) ⟨I,?_,?_,fin (u.trans g) _,Z,n2⟩
  ·unfold aBu;rw[if_pos rfl]
  ·have x:=J.chO (Ch.put (S:=λj=>j=h.next) p (some (O (N tA true) (auA 0 [] false false))) rfl) λj o e=>by
    subst e;rcases g.sub _ o with o|o
    ·exact no (l:=L) o
    ·omega
   unfold arR;rw[if_pos rfl];simpa[dV]using x
 ·obtain⟨p,e2,g⟩:=aEO m;have y:=(g.get h.next (by omega) λq=>q).trans E;simp(disch:=omega)only[vvB,seval,anJ,apx,apw,aAb,<-f,B,WS.len G,e2,aEZ y];refine aW.ret (by simp only[cO,vvB,seval,aoS,aFr (kL _ _ _),dn];rfl) ⟨L,?_,?_,fin (u.step g λ_ q=>q.elim) _,λ_ _ _=>rfl,rfl⟩
  ·unfold aBu;rw[if_neg z]
  ·have x:=(v.ch g λ_ _ _ q=>q).chO (Ch.put (S:=λj=>j=h.next) p (some (O (N tA true) (auA 2 [119,111,114,100,115] false false))) rfl) λj o e=>by
    subst e;exact no (l:=L) o
   unfold arR;rw[if_neg z];simpa using x
end Go.Proofs.Im
