/- Lemmas. No conditions. -/
import Derived.Test.YtpgppmioigacoaaGreatDoorFAQ
import Derived.Test.YtpgppmioigacoaaGreatDoorFAH
set_option linter.all false
set_option maxRecDepth 100000
open List renaming getElem?_set_ne→a!,getElem?_set_self→b!,getElem?_eq_some_iff→e!,getElem?_eq_getElem→g!,length_append→h!,take_length→i!,take_add_one→p!,mem_append→q!,length_nil→r!
open Go.Vm.Pos renaming of→c!
open Go.Proofs.Tryz renaming prog→d!
open Nat renaming le_refl→j!,add_zero→l!,lt_of_lt_of_le→o!,mul_le_mul→t!,zero_add→u!,beq_refl→v!,beq→w!
open Int renaming tdiv_eq_ediv_of_nonneg→k!,tdiv→n!,zero_add→x!
open Go.Vm.V renaming int→Y,ptr→X,bool→K,str→H
open Go.IntKind renaming i64→U
open Go.Vm.Ob renaming cells→O
open Go.Vm.Wr renaming rw→N
open Go.Vm.R renaming ok→D
noncomputable section
open Go Go.Proofs Go.Vm Go.Ln
namespace Go.Proofs.Im
def alB{s:List Nat}{h:Hp}(hl:s.length<1000000000)(I:∀c∈s,c<256):∃r h',BI [H s] h=D r h'/\r=H (foldM s)/\Ch (λ_=>False) h h':=by
 rw[aHe];show aV d! _ (λr h'=>r=H (foldM s)/\Ch (λ_=>False) h h') _;simp(disch:=omega)only[vvB,seval,aGI,axG,axF,axE,avr];refine Oc.then (dX (n:=s.length) (λm fr g=>∃k rest,fr.get (c! 0)=some (H s)/\fr.get (c! 3)=some (.slice h.next 0 k (.kn s.length))/\fr.get (c! 10)=some (Y U (s.length:Int))/\fr.get (c! 11)=some (Y U (k:Int))/\
   k+m=s.length/\g.get h.next=some (O (N 5 true) (bys (foldM (s.take k))++rest))/\rest.length=m/\Ch (λ_=>False) h g/\h.next.nat<g.next.nat)
  (A:=λfr g=>fr.get (c! 3)=some (.slice h.next 0 s.length (.kn s.length))/\∃rest,g.get h.next=some (O (N 5 true) (bys (foldM s)++rest))/\Ch (λ_=>False) h g) (B:=λ_ _=>False) (by rw[dR];omega) ?_ ?_) ?_ ?_
 ·exact⟨0,times s.length [Y .u8 0],qK0,qK0,qK0,qK1,by omega,by simp[foldM,bys,dY],aEB _ _,Ch.new _ _ _,by rw[bJ];omega⟩
 ·rintro m fr g ⟨k,rest,f0,f3,e,i,Z,o,v,f,Q⟩;by_cases W:m=0
  ·subst W;have E:k=s.length:=by omega
   subst E;simp(disch:=omega)only[vvB,seval,VY,VT,e,i];exact⟨rfl,qK2 f3,rest,by rw[i!]at o;exact o,f⟩
  ·have l:k<s.length:=by omega
   obtain⟨x,a,rfl⟩:∃x r,rest=x::r:=by
    cases rest with
    |nil=>simp at v;omega
    |cons x r=>exact⟨x,r,rfl⟩
   have P:=I s[k] (List.getElem_mem _);have w:∀h,jY (H s) (Y U (k:Int)) h=D (Y .u8 ((s[k]:Nat):Int)) h:=λh=>Tf (g! l);generalize C:s[k]=c at P w;have S:foldM (s.take (k+1))=foldM (s.take k)++ [QC c]:=by
    rw[p!,g! l,C];simp[foldM]
   have G:(bys (foldM (s.take k))).length=k:=by rw[BU];simp[foldM];omega
   have z:=λy:V=>aQX (el:=5) (bt:=1) (y:=y) o G l Q;have fin:∀g',g'=(g.new (O (N 5 true) [Y .u8 ((QC c:Nat):Int)])).put h.next (some (O (N 5 true) (bys (foldM (s.take k))++Y .u8 ((QC c:Nat):Int)::a)))->
     g'.get h.next=some (O (N 5 true) (bys (foldM (s.take (k+1)))++a))/\Ch (λ_=>False) h g'/\h.next.nat<g'.next.nat:=by
    rintro g' rfl;refine⟨?_,?_,by rw[jQ,bJ];omega⟩
    ·rw[kJ,S,abl];simp[bys]
    ·refine⟨by rw[jQ,bJ];have:=f.next;omega,λj hj hn=>?_⟩;rw[Us _ (by omega),new_ne _ (by have:=f.next;omega)];exact f.get j hj hn
   by_cases L:65<=c
   ·by_cases M:c<=90
    ·have d:QC c=c+32:=by unfold QC;rw[if_pos ⟨L,M⟩]
     have J:∀h,aH .add .none (Y .u8 (c:Int)) (Y .u8 32) h=D (Y .u8 ((c+32:Nat):Int)) h:=λh=>aEV (b:=32) (by omega);rw[d]at fin;simp(disch:=omega)only[vvB,seval,VY,VT,ab1,abZ,abY,abX,abW,abV,f0,f3,e,i,w,J,z];obtain⟨p,t,u⟩:=fin _ rfl;exact⟨m - 1,by omega,k+1,a,qK2 f0,qK0,qK2 e,qK1,by omega,p,by simp at v;omega,t,u⟩
    ·have d:QC c=c:=by unfold QC;rw[if_neg (by omega)]
     rw[d]at fin;simp(disch:=omega)only[vvB,seval,VY,VT,ab1,abZ,abY,abX,abW,abV,f0,f3,e,i,w,z];obtain⟨p,t,u⟩:=fin _ rfl;exact⟨m - 1,by omega,k+1,a,qK2 f0,qK0,qK2 e,qK1,by omega,p,by simp at v;omega,t,u⟩
   ·have d:QC c=c:=by unfold QC;rw[if_neg (by omega)]
    rw[d]at fin;simp(disch:=omega)only[vvB,seval,VY,VT,ab1,abZ,abY,abX,abW,abV,f0,f3,e,i,w,z];obtain⟨p,t,u⟩:=fin _ rfl;exact⟨m - 1,by omega,k+1,a,qK2 f0,qK0,qK2 e,qK1,by omega,p,by simp at v;omega,t,u⟩
 ·rintro fr g ⟨f3,rest,o,f⟩;have hb:=ay4 (n:=s.length) o (aIm I);rw[show(foldM s).length=s.length by simp[foldM]]at hb;simp(disch:=omega)only[vvB,seval,asQ,f3,hb];exact aV.ret (qT0) ⟨rfl,f⟩
 ·intro fr g q;exact q.elim
def aqt{s:List Nat}(h:Hp)(hl:s.length<1000000000)(a:∀c∈s,c<256):∃h',BI [H s] h=D (H (foldM s)) h'/\Ch (λ_=>False) h h':=by
 obtain⟨r,h',e,rfl,c⟩:=alB hl a;exact⟨h',e,c⟩
structure Bd (b:Nat) (h:Hp) (i:Pos) (q:Nat) (t:TypeId) (l:List V) (s:List Nat):Prop where
 hb:b<=i.nat
 hi:i.nat<h.next.nat
 get:h.get i=some (O (N t true) l)
 addr:l[q]?=some .dn\/l[q]?=some (X i q)
 buf:∃vb,l[q+1]?=some vb/\Ow b h 5 1 vb s.length (bys s)/\∀j,bI vb=some j->j≠i
 lies:liesAt d! d!.depth t (l.length / d!.cellsOf t) q 141 1=true
def Bd.ch{b:Nat}{h h':Hp}{i:Pos}{q:Nat}{t:TypeId}{l:List V}{s:List Nat}{S:Pos->Prop}(d:Bd b h i q t l s)(c:Ch S h h')(e:∀j:Pos,b<=j.nat->j.nat<h.next.nat->¬S j):Bd b h' i q t l s:=by
 obtain⟨vb,f,a,g⟩:=d.buf;refine⟨d.hb,o! d.hi c.next,by rw[c.get i d.hi (e i d.hb d.hi)];exact d.get,d.addr,⟨vb,f,a.ch c λj hj=>e j (a.eY hj).1 (a.eY hj).2,g⟩,d.lies⟩
def apU(l:List V)(q:Nat)(v:V):(l.set q v).length=l.length:=by simp
def awx{b:Nat}{h:Hp}{i:Pos}{q:Nat}{t:TypeId}{l:List V}{s:List Nat}(d:Bd b h i q t l s):
  ∃r h',ahS [X i q] h=D r h'/\Bd b h' i q t (l.set q (X i q)) s/\Ch (λj=>j=i) h h'/\h'.next=h.next:=by
 rw[aHc];show aV d! _ (λr h'=>Bd b h' i q t (l.set q (X i q)) s/\Ch (λj=>j=i) h h'/\h'.next=h.next) _;have e:=d.get;rcases d.addr with c|c
 ·have f:aF (X i q) h=D .dn h:=by rw[ED e];simp only[c]
  have a:q<l.length:=(e!.1 c).1;have v:=aKQ e c;have w:=aFi (P:=d!) (u:=141) e c d.lies;have p:=afm e (y:=X i q) ⟨rfl,rfl⟩ a;have o:ayz [X i q] h=D (X i q) h:=rfl;simp(disch:=omega)only[vvB,seval,axU,al5,axr,l!,f,aiW,v,o,w,p];refine aV.nor (qT0) ⟨?_,Ch.put h _ rfl,rfl⟩;obtain⟨vb,x,z,g⟩:=d.buf;refine⟨d.hb,d.hi,kJ _ _ _,.inr (by rw[b! a]),⟨vb,?_,z.ch (Ch.put (S:=λj=>j=i) h _ rfl) λj hj=>g j hj,g⟩,by rw[apU];exact d.lies⟩;rw[a! (by omega)];exact x
 ·have f:aF (X i q) h=D (X i q) h:=by rw[ED e];simp only[c]
  have a:q<l.length:=(e!.1 c).1;simp(disch:=omega)only[vvB,seval,axU,al5,axq,l!,f,fG,au9 (n:=2) rfl];have B:l.set q (X i q)=l:=by
   apply List.ext_getElem?;intro k;by_cases m:q=k
   ·subst m;rw[b! a,c]
   ·rw[a! m]
  rw[B];exact aV.nor (qT0) ⟨d,Ch.refl _ _,rfl⟩
def OfB(i:Pos)(q:Nat)(l:List V)(j:Pos):Prop:=j=i\/∃v,l[q+1]?=some v/\bI v=some j
def Uj{b:Nat}{h:Hp}{i:Pos}{q:Nat}{ty:TypeId}{l:List V}{s:List Nat}(d:Bd b h i q ty l s)(t:List Nat)(Q:s.length+t.length<=1000000000):
  ∃r h' u,yP [X i q,H t] h=D r h'/\Bd b h' i q ty u (s++t)/\Stp (OfB i q l) h (OfB i q u) h'/\(∀k,k≠q->k≠q+1->u[k]?=l[k]?)/\u.length=l.length:=by
 obtain⟨r1,p,e1,c,E,S⟩:=awx d;obtain⟨vb,b1,b2,v⟩:=c.buf;obtain⟨m,g,e2,z,w,i2⟩:=aLt (bt:=1) (t:=t) b2 (by have:=c.hb;have:=c.hi;omega) (by omega);have f:q+1<(l.set q (X i q)).length:=(e!.1 b1).1;have B:aF (X i (q+1)) p=D vb p:=by rw[ED c.get];simp only[b1]
 have G:g.get i=some (O (N ty true) (l.set q (X i q))):=by rw[w.get i c.hi λhj=>v i hj rfl];exact c.get
 have C:=afm G (y:=m) z.cell f;have x:Ch (λj=>j=i) g (g.put i (some (O (N ty true) ((l.set q (X i q)).set (q+1) m)))):=Ch.put g _ rfl;refine⟨.tuple (.cons (Y U (t.length:Int)) (.cons .oL .nil)),g.put i (some (O (N ty true) ((l.set q (X i q)).set (q+1) m))),(l.set q (X i q)).set (q+1) m,?_,?_,?_,λk P I=>by rw[a! (by omega),a! (by omega)],by simp⟩
 ·rw[aHd];simp(disch:=omega)only[vvB,seval,aGH,axD,axC,axB,axA,e1,B,e2,C];simp only[bV,bQ,vvB,seval,bT];rfl
 ·refine⟨d.hb,by rw[jQ];have:=c.hi;have:=w.next;omega,kJ _ _ _,.inr ?_,⟨m,?_,?_,?_⟩,by rw[apU];exact c.lies⟩
  ·rw[a! (by omega),b! (by simp at f;omega)]
  ·rw[b! f]
  ·have M:=z.ch x λj hj=>by
    rcases i2 j hj with a|a
    ·exact v j a
    ·intro e;rw[e]at a;have:=c.hi;omega
   rw[h!];exact M
  ·intro j hj;rcases i2 j hj with a|a
   ·exact v j a
   ·intro e;rw[e]at a;have:=c.hi;omega
 ·have n:l[q+1]?=some vb:=by rw[a! (by omega)]at b1;exact b1
  have J:Stp (OfB i q l) h (OfB i q l) p:=⟨E.mono λj _ e=>.inl e,λ_ q=>.inl q⟩
  have L:Stp (OfB i q l) p (OfB i q ((l.set q (X i q)).set (q+1) m)) g:=⟨w.mono λj _ hj=>.inr ⟨vb,n,hj⟩,λj hj=>by
   rcases hj with hj|⟨v2,o,hj⟩
   ·exact .inl (.inl hj)
   ·rw[b! f]at o;cases o;rcases i2 j hj with a|a
    ·exact .inl (.inr ⟨vb,n,a⟩)
    ·exact .inr a⟩
  exact(J.trans L).step x λj e=>.inl e
def OfB.from{b:Nat}{h:Hp}{i:Pos}{q:Nat}{t:TypeId}{l:List V}{s:List Nat}(d:Bd b h i q t l s)(j:Pos)(o:OfB i q l j):b<=j.nat/\j.nat<h.next.nat:=by
 rcases o with rfl|⟨v,a,hj⟩
 ·exact⟨d.hb,d.hi⟩
 ·obtain⟨vb,b1,b2,c⟩:=d.buf;rw[b1]at a;cases a;exact b2.eY hj
def Bd.chO{b:Nat}{h h':Hp}{i:Pos}{q:Nat}{t:TypeId}{l:List V}{s:List Nat}{S:Pos->Prop}(d:Bd b h i q t l s)(c:Ch S h h')(e:∀j:Pos,OfB i q l j->¬S j):Bd b h' i q t l s:=by
 obtain⟨vb,a,f,g⟩:=d.buf;refine⟨d.hb,o! d.hi c.next,by rw[c.get i d.hi (e i (.inl rfl))];exact d.get,d.addr,⟨vb,a,f.ch c λj hj=>e j (.inr ⟨vb,a,hj⟩),g⟩,d.lies⟩
def alb{b:Nat}{h:Hp}{i:Pos}{q:Nat}{ty:TypeId}{l:List V}{s:List Nat}(d:Bd b h i q ty l s)(t:List Nat)(g:s.length+t.length<=1000000000):
  ∃r h' a,yP [X i q,H t] h=D r h'/\Bd b h' i q ty a (s++t)/\Ch (λj=>b<=j.nat) h h'/\(∀k,k≠q->k≠q+1->a[k]?=l[k]?)/\a.length=l.length:=by
 obtain⟨r,h',a,e,f,c,k,n⟩:=Uj d t g;exact⟨r,h',a,e,f,c.ch.mono λj _ o=>(o.from d j).1,k,n⟩
def afk{b:Nat}{h:Hp}{i:Pos}{q:Nat}{t:TypeId}{l:List V}{s:List Nat}(d:Bd b h i q t l s)(h0:s≠ [])(w:∀c∈s,c<256)(hl:s.length<=1000000000):
  ∃h',KW [X i q] h=D (H s) h'/\Ch (λj=>OfB i q l j/\j≠i) h h'/\h'.next=h.next:=by
 obtain⟨vb,b1,b2,o⟩:=d.buf;have a:aF (X i (q+1)) h=D vb h:=by rw[ED d.get];simp only[b1]
 have k:aZ 2 vb h=D (Y U (s.length:Int)) h:=b2.sl.length;have e:0<s.length:=by cases s with|nil=>exact absurd rfl h0|cons _ _=>simp
 rcases b2.is with⟨y,_⟩|⟨j,rfl,r,u,f,p⟩
 ·omega
 ·obtain⟨m,v⟩:∃m,s.length=m+1:=⟨s.length - 1,by omega⟩
  have g:BN (.slice j 0 s.length (.un 1)) h=D (X j 0) h:=by rw[v];rfl
  have n:=auD p w (by omega) h0;have x:eqV (V.slice j 0 s.length (.un 1)) (V.slice j 0 s.length (.un 1))=true:=by
   show(match j.eq j,w! 0 0,w! s.length s.length with
    |true,true,true=>w! 1 1
    |_,_,_=>false)=true
   rw[Pos.eq_self,v!,v!];rfl
  refine⟨h.put j (some (O .ro (bys s))),?_,Ch.put h _ ⟨.inr ⟨_,b1,rfl⟩,o j rfl⟩,rfl⟩;rw[atl];simp(disch:=omega)only[vvB,seval,axW,axG,al9,a,k,g,n,MS (m:=λh=>aF (X i (q+1)) h) a x];simp only[bV,bQ,vvB,seval,bT]
def aEE{b:Nat}{h:Hp}{i:Pos}{q:Nat}{t:TypeId}{l:List V}{s:List Nat}(d:Bd b h i q t l s)(h0:s≠ [])(a:∀c∈s,c<256)(hl:s.length<=1000000000):
  ∃h',KW [X i q] h=D (H s) h'/\Ch (λj=>b<=j.nat/\j≠i) h h'/\h'.next=h.next:=by
 obtain⟨h',e,c,n⟩:=afk d h0 a hl;exact⟨h',e,c.mono λj _ o=>⟨(o.1.from d j).1,o.2⟩,n⟩
def aIi{b:Nat}{h:Hp}{i:Pos}{q:Nat}{t:TypeId}{l:List V}(d:Bd b h i q t l [])(a:l[q+1]?=some .aP)(n:Nat)(h0:0<n)(hn:n<=1000000000):
  ∃r h' o,apM [X i q,Y U (n:Int)] h=D r h'/\Bd b h' i q t o []/\Ch (λj=>b<=j.nat) h h'/\o.length=l.length/\(∀k,k≠q->k≠q+1->o[k]?=l[k]?):=by
 have f:aF (X i (q+1)) h=D .aP h:=by rw[ED d.get];simp only[a]
 have c:q+1<l.length:=(e!.1 a).1;have p:(h.new (O (N 5 false) [])).get i=some (O (N t true) l):=by rw[new_ne h (by have:=d.hi;omega)];exact d.get
 have s:aF (X i (q+1)) (h.new (O (N 5 false) []))=D .aP (h.new (O (N 5 false) [])):=by rw[ED p];simp only[a]
 have w:=afm p (y:=.slice h.next 0 0 (.un 1)) ⟨rfl,rfl⟩ c;have v:ayy [Y U (n:Int)] h=D (.slice h.next 0 n (.un 1)) (h.new (O (N 5 false) [])):=aEW (by omega);have u:aH .mul .none (Y U 2) (Y U 0) h=D (Y U 0) h:=rfl;have x:Ch (λj=>b<=j.nat) h (h.new (O (N 5 false) [])):=Ch.new _ _ _;have z:Ch (λj=>j=i) (h.new (O (N 5 false) [])) ((h.new (O (N 5 false) [])).put i (some (O (N t true) (l.set (q+1) (.slice h.next 0 0 (.un 1)))))):=Ch.put _ _ rfl;refine⟨.tuple .nil,(h.new (O (N 5 false) [])).put i (some (O (N t true) (l.set (q+1) (.slice h.next 0 0 (.un 1))))),l.set (q+1) (.slice h.next 0 0 (.un 1)),?_,?_,x.trans (z.mono λj _ e=>by rw[e];exact d.hb) (λ_ _ q=>q),by simp,λk _ B=>by rw[a! (by omega)]⟩
 ·rw[aHb];simp(disch:=omega)only[vvB,seval,aGG,axp,axo,axn,f,s,afD,WI,u,x!,v,w,aC8,aDc,aAW (m:=λh=>aF (X i (q+1)) h) f f (show eqV V.aP V.aP=true from rfl)];simp only[bV,bQ,vvB,seval,bT];rfl
 ·refine⟨d.hb,by rw[jQ,bJ];have:=d.hi;omega,kJ _ _ _,?_,⟨.slice h.next 0 0 (.un 1),by rw[b! c],⟨by simp[bys],.inr ⟨h.next,rfl,by have:=d.hb;have:=d.hi;omega,by rw[jQ,bJ];omega,false,?_⟩⟩,?_⟩,by rw[apU];exact d.lies⟩
  ·rcases d.addr with g|g
   ·left;rw[a! (by omega)];exact g
   ·right;rw[a! (by omega)];exact g
  ·rw[Us _ (by have:=d.hi;omega),dY];rfl
  ·intro j hj e;cases hj;have:=d.hi;rw[<-e]at this;omega
def aK8{b:Nat}{h:Hp}{i:Pos}{q:Nat}{t:TypeId}{l:List V}(d:Bd b h i q t l [])(c:l[q+1]?=some .aP)(n:Nat)(hn:n<=1000000000):
  ∃r h' s,apN [X i q,Y U (n:Int)] h=D r h'/\Bd b h' i q t s []/\Ch (λj=>b<=j.nat) h h'/\s.length=l.length/\(∀k,k≠q->k≠q+1->s[k]?=l[k]?):=by
 obtain⟨r1,g,e1,o,w,I⟩:=awx d;have a:(l.set q (X i q))[q+1]?=some .aP:=by rw[a! (by omega)];exact c
 have f:aF (X i (q+1)) g=D .aP g:=by rw[ED o.get];simp only[a]
 have v:Ch (λj=>b<=j.nat) h g:=w.mono λj _ e=>by rw[e];exact d.hb
 have G:= @MS (λh=>aF (X i (q+1)) h) V.aP;by_cases h0:n=0
 ·refine⟨.tuple .nil,g,l.set q (X i q),?_,o,v,by simp,λk u _=>by rw[a! (by omega)]⟩;rw[atj];simp(disch:=omega)only[vvB,seval,axV,axC,al7,al6,e1,f,afD,WI,MS (m:=λh=>aF (X i (q+1)) h) f (show eqV V.aP V.aP=true from rfl)];simp only[bV,bQ,vvB,seval,bT];rfl
 ·obtain⟨r2,z,B,e2,y,x,C,E⟩:=aIi o a n (by omega) hn;refine⟨.tuple .nil,z,B,?_,y,v.trans x λ_ _ q=>q,by rw[C];simp,λk u p=>by rw[E k u p,a! (by omega)]⟩;rw[atj];simp(disch:=omega)only[vvB,seval,axV,axC,al7,al6,axs,e1,e2,f,afD,WI,MS (m:=λh=>aF (X i (q+1)) h) f (show eqV V.aP V.aP=true from rfl)];simp only[bV,bQ,vvB,seval,bT];rfl
def strs_get{l:List (List Nat)}{k:Nat}{a:List Nat}(e:l[k]?=some a):(l.map H)[k]?=some (H a):=by rw[List.getElem?_map,e];rfl
def aAB:liesAt d! d!.depth 141 (2 / d!.cellsOf 141) 0 141 1=true:=kR
def aKR(h:Hp):fA 141 [.dn,.aP] h=D (X h.next 0) (h.new (O (N 141 true) [.dn,.aP])):=(rfl)
def take_snoc{α:Type}{l:List α}{k:Nat}{a:α}(e:l[k]?=some a):l.take (k+1)=l.take k++ [a]:=by rw[p!,e];rfl
def UF{c:Nat}{h:Hp}{v:V}{l:List (List Nat)}{sep:List Nat}(s:Sl c h 1 v l.length (l.map H))(ag:zn 1 v)(hc:c<=h.next.nat)(hn:l.length<=1000000)(hs:sep.length<=100)(ht:fP l<=100000000)
  (hb:∀t∈l,∀c∈t,c<256) (an:∀c∈sep,c<256) (C:l.length<=1\/dH sep l≠ []):
  ∃r h',Xw [v,H sep] h=D r h'/\r=H (dH sep l)/\Ch (λ_=>False) h h':=by
 rw[aJQ];show aV d! _ (λr h'=>r=H (dH sep l)/\Ch (λ_=>False) h h') _;have sl:∀h',aZ 2 v h'=D (Y U (l.length:Int)) h':=λh'=>s.length;cases l with
 |nil=>
  simp(disch:=omega)only[vvB,seval,apl,aak,aaj,aai,aak,sl,r!,show((0:Nat):Int)=0 from rfl];exact aV.ret (qT0) ⟨rfl,Ch.refl _ _⟩
 |cons a r=>
 obtain⟨i0,q0,x0,ai,e0,av,l0⟩:=s.at1 (m:=0) (by simp);rw[strs_get (show(a::r)[0]?=some a from rfl)]at ai;cases ai;cases r with
 |nil=>
  have L:∀h',aX 1 v (Y U 0) h'=D (X i0 q0) h':=e0;simp(disch:=omega)only[vvB,seval,apl,aak,aaj,aai,aix,aCc,sl,List.length_cons,r!,u!,show((1:Nat):Int)=1 from rfl,L,l0 h rfl];exact aV.ret (r:=H (dH sep [a])) (qT0) ⟨rfl,Ch.refl _ _⟩
 |cons a2 r2=>
 generalize am:a2::r2=b at*;have aD:1<=b.length:=by rw[<-am];simp
 have o:(a::b).length=b.length+1:=by simp
 rw[o]at sl hn;have d:((b.length+1:Nat):Int)=(b.length:Int)+1:=by omega
 rw[d]at sl;have aE:fP (a::b)=a.length+fP b:=by simp[fP]
 obtain⟨E,G⟩:∃E,E=sep.length*b.length:=⟨_,rfl⟩
 have hw:E<=100000000:=by rw[G];exact Nat.le_trans (t! hs (show b.length<=1000000 by omega)) (by omega)
 have z:(sep.length:Int)*((b.length:Int)+1 - 1)=(E:Int):=by
  rw[G,show(b.length:Int)+1 - 1=(b.length:Int) by omega];simp
 have W:sep.length=0->E=0:=λe=>by rw[G,e,Nat.zero_mul]
 have ax:(1000:Int)<=n! 9223372036854775807 ((b.length:Int)+1 - 1):=by
  rw[k! (by omega)];exact Int.le_ediv_of_mul_le (by omega) (by omega)
 have ay:n! 9223372036854775807 ((b.length:Int)+1 - 1)<=9223372036854775807:=by
  rw[k! (by omega)];exact Int.ediv_le_self _ (by omega)
 have qu:∀h',aH .quo .none (Y U 9223372036854775807) (Y U ((b.length:Int)+1 - 1)) h'=D (Y U (n! 9223372036854775807 ((b.length:Int)+1 - 1))) h':=λh'=>avz (by omega) (by omega) (by omega);have mu:∀h',aH .mul .none (Y U (sep.length:Int)) (Y U ((b.length:Int)+1 - 1)) h'=D (Y U (E:Int)) h':=λh'=>by rw[avC (by rw[z];omega) (by rw[z];omega),z]
 generalize az:n! 9223372036854775807 ((b.length:Int)+1 - 1)=qq at*;have I:∀fr,fr.get (c! 0)=some v->fr.get (c! 1)=some (H sep)->fr.get (c! 5)=some (Y U (E:Int))->
   aV d! [.tmp 4] (λr h'=>r=H (dH sep (a::b))/\Ch (λ_=>False) h h') (oC (oC (al1 fr h) (bD 1 (dG aco lf))) (aB alZ (aB alY (aB alX (aB (aB alW (bD 3 (dG acn lf))) (aB alU Out.ret)))))):=by
  intro fr f0 f1 P;simp(disch:=omega)only[vvB,seval,al1,f0,sl];refine Oc.then (dX (n:=b.length+1) (λm fr g=>∃k:Nat,fr.get (c! 0)=some v/\fr.get (c! 1)=some (H sep)/\fr.get (c! 39)=some v/\fr.get (c! 40)=some (Y U ((b.length:Int)+1))/\fr.get (c! 41)=some (Y U (k:Int))/\
    fr.get (c! 5)=some (Y U ((E+fP ((a::b).take k):Nat):Int))/\k+m=b.length+1/\g=h)
   (A:=λfr g=>fr.get (c! 0)=some v/\fr.get (c! 1)=some (H sep)/\fr.get (c! 5)=some (Y U ((E+fP (a::b):Nat):Int))/\g=h) (B:=λ_ _=>False) (by rw[dR];omega) ?_ ?_) ?_ ?_
  ·exact⟨0,qK2 f0,qK2 f1,qK0,qK0,qK1,by simp only[vvB,seval,P];simp[fP],by omega,rfl⟩
  ·rintro m fr g ⟨k,f0,f1,ac,M,ad,P,hk,rfl⟩;by_cases hz:m=0
   ·simp(disch:=omega)only[vvB,seval,aco,al0,M,ad];have S:k=(a::b).length:=by rw[o];omega
    rw[S,i!]at P;exact⟨rfl,qK2 f0,qK2 f1,qK2 P,rfl⟩
   ·have w:k<(a::b).length:=by rw[o];omega
    obtain⟨i,q,x,p,e1,-,e2⟩:=s.at1 w;obtain⟨t,f⟩:∃t,(a::b)[k]?=some t:=⟨_,g! w⟩
    rw[strs_get f]at p;cases p;have ah:=aCQ ((a::b).take k) t;rw[<-take_snoc f]at ah;have aw:=amZ (a::b) (k+1);simp(disch:=omega)only[vvB,seval,aco,al0,axl,axk,axj,axi,P,ac,M,ad,e1,e2 g rfl];exact⟨m - 1,by omega,k+1,qK2 f0,qK2 f1,qK2 ac,qK2 M,qK1,by simp only[vvB,seval];rw[ah];congr 2;omega,by omega,rfl⟩
  ·rintro fr g ⟨f0,f1,P,rfl⟩;have d0:Bd g.next.nat (g.new (O (N 141 true) [.dn,.aP])) g.next 0 141 [.dn,.aP] []:=
    ⟨j! _,by rw[bJ];omega,dY _ _,.inl rfl,⟨.aP,rfl,Ow.nil _ _ _ _,λj hj=>(by cases hj)⟩,aAB⟩
   obtain⟨r3,h3,l3,e3,d3,c3,n3,-⟩:=aK8 d0 rfl (E+fP (a::b)) (by omega);have aa:Ch (λj=>g.next.nat<=j.nat) g h3:=(Ch.new (λj=>g.next.nat<=j.nat) g _).trans c3 λ_ _ q=>q;obtain⟨r4,h4,l4,e4,d4,c4,-,n4⟩:=alb d3 a (by simp;omega);have ab:=aa.trans c4 λ_ _ q=>q;obtain⟨v',es,s',au,-⟩:=s.from ag (by omega) (lo:=1) (by simp);have s4:∀{g'},Ch (λj=>g.next.nat<=j.nat) g g'->Sl c g' 1 v' b.length (b.map H):=λc=>by
    have:=s'.ch c hc λj hj=>by have:=s'.eY hj;omega
    simpa using this
   have L0:aF (X i0 q0) h3=D (H a) h3:=l0 h3 (aa.get i0 (by omega) (by omega));have L:∀h',aX 1 v (Y U 0) h'=D (X i0 q0) h':=e0;have aj:∀h',fM 1 v (some (Y U 1)) none none h'=D v' h':=es;have ar:∀h',aZ 2 v' h'=D (Y U (b.length:Int)) h':=λh'=>(s4 ab).length;simp(disch:=omega)only[vvB,seval,alZ,alY,alX,alW,f0,f1,P,aKR,e3,L,L0,e4,aj,ar];refine Oc.then (dX (n:=b.length) (λm fr g'=>∃(k:Nat) (Z:List V),fr.get (c! 1)=some (H sep)/\fr.get (c! 8)=some (X g.next 0)/\fr.get (c! 63)=some v'/\fr.get (c! 64)=some (Y U (b.length:Int))/\fr.get (c! 65)=some (Y U (k:Int))/\
     k+m=b.length/\Bd g.next.nat g' g.next 0 141 Z (a++zl sep (b.take k))/\Ch (λj=>g.next.nat<=j.nat) g g')
    (A:=λfr g'=>fr.get (c! 8)=some (X g.next 0)/\∃Z,Bd g.next.nat g' g.next 0 141 Z (dH sep (a::b))/\Ch (λj=>g.next.nat<=j.nat) g g') (B:=λ_ _=>False) (by rw[dR];omega) ?_ ?_) ?_ ?_
   ·exact⟨0,l4,qK2 f1,qK0,qK0,qK0,qK1,by omega,by simpa[zl]using d4,ab⟩
   ·rintro m fr g' ⟨k,Z,f1,f8,ae,Q,af,hk,db,J⟩;by_cases hz:m=0
    ·simp(disch:=omega)only[vvB,seval,acn,alV,Q,af];have S:k=b.length:=by omega
     rw[S,i!,<-xI]at db;exact⟨rfl,qK2 f8,Z,db,J⟩
    ·have w:k<b.length:=by omega
     obtain⟨i,q,x,p,e1,-,e2⟩:=(s4 J).at1 w;obtain⟨t,f⟩:∃t,b[k]?=some t:=⟨_,g! w⟩
     rw[strs_get f]at p;cases p;have u:(a++zl sep (b.take (k+1))).length<=900000000:=by
      rw[h!,WM];have h1:=amZ b (k+1);have h2:sep.length*(b.take (k+1)).length<=100*1000000:=t! hs (by rw[List.length_take];omega);omega
     rw[take_snoc f,anr]at u;obtain⟨r5,h5,l5,e5,d5,c5,-,-⟩:=alb db sep (by simp at u⊢;omega);obtain⟨r6,h6,l6,e6,d6,c6,-,-⟩:=alb d5 t (by simp at u⊢;omega);simp(disch:=omega)only[vvB,seval,acn,alV,axh,axg,axf,axe,f1,f8,ae,Q,af,e1,e2 g' rfl,e5,e6];refine⟨m - 1,by omega,k+1,l6,qK2 f1,qK2 f8,qK2 ae,qK2 Q,qK1,by omega,?_,(J.trans c5 λ_ _ q=>q).trans c6 λ_ _ q=>q⟩;rw[take_snoc f,anr];simpa using d6
   ·rintro fr g' ⟨f8,Z,db,J⟩;have hj:dH sep (a::b)≠ []:=by
     rcases C with C|C
     ·rw[o]at C;omega
     ·exact C
    have al:(dH sep (a::b)).length<=1000000000:=by
     have e3:=WM sep b;rw[xI,h!,e3,<-G];omega
    have ak:∀c∈dH sep (a::b),c<256:=by
     intro x p;rw[xI,q!]at p;rcases p with p|p
     ·exact hb a (by simp) x p
     ·unfold zl at p;obtain⟨y,hy,aq⟩:=List.mem_flatten.1 p;obtain⟨t,ap,rfl⟩:=List.mem_map.1 hy;rcases q!.1 aq with q|q
      ·exact an x q
      ·exact hb t (by simp[ap]) x q
    obtain⟨h7,e7,c7,-⟩:=aEE db hj ak al;simp(disch:=omega)only[vvB,seval,alU,f8,e7];refine aV.ret (r:=H (dH sep (a::b))) (qT0) ⟨rfl,?_⟩;exact⟨by have:=J.next;have:=c7.next;omega,λj hj hn=>(c7.get j (by have:=J.next;omega) (by omega)).trans (J.get j hj (by omega))⟩
   ·intro fr g q;exact q.elim
  ·intro fr g q;exact q.elim
 by_cases ao:sep.length=0
 ·have:=W ao;simp(disch:=omega)only[vvB,seval,apl,aak,aaj,aai,aix,aq5,aq4,sl,o,d];exact I _ (qK0) (qK0) (by simp only[vvB,seval];rw[this];rfl)
 ·simp(disch:=omega)only[vvB,seval,apl,aak,aaj,aai,aix,aq5,aq4,aCb,axm,sl,o,d,qu,mu];simp only[x!];exact I _ (qK0) (qK0) (qK0)
end Go.Proofs.Im
namespace Go.Vm
section
variable{h:Hp}
def afW(k:Int)(t:List Nat)(last bare:Bool):V:=.agg (.cons (Y U k) (.cons (H t) (.cons (K last) (.cons (K bare) (.cons (K false) .nil)))))
def awI(k:Int)(t:List Nat)(last bare:Bool):List V:= [Y U k,H t,K last,K bare,K false]
def aDd(k:Int)(s:List Nat):bW [Y U 0,H [],K false,K false,K false] [(0,1,Y U k),(1,1,H s)] h=D (afW k s false false) h:=(rfl)
def aDe:bW [Y U 0,H [],K false,K false,K false] [] h=D (afW 0 [] false false) h:=(rfl)
def ap8(t:TypeId):fA t [Y U 0,H [],K false,K false,K false] h=D (X h.next 0) (h.new (O (N t true) [Y U 0,H [],K false,K false,K false])):=(rfl)
def aHE{i:Pos}{t:TypeId}{f:Bool}{x y z u v:V}{k:Int}{s:List Nat}{a b:Bool}(c:h.get i=some (O (N t f) [x,y,z,u,v])):aS 5 (X i 0) (afW k s a b) h=D V.undef (h.put i (some (O (N t f) (awI k s a b)))):=by
 rw[xB c rfl rfl];rfl
def aIb{i:Pos}{wr:Wr}{k:Int}{s:List Nat}{a b:Bool}(c:h.get i=some (O wr (awI k s a b))):bH 5 (X i 0) h=D (afW k s a b) h:=by
 show dV h i (λ_ cs=>match gy 5 (fB 0 cs) with|some l=>R.ok (V.agg (V.ofList l)) h|none=>.bad)=_;rw[dW (wr:=wr) (all:=awI k s a b) (by rw[c];rfl)];rfl
def ail(h:Hp)(o o':Ob):Ch (λ_=>False) h ((h.new o).put h.next (some o')):=
 (Ch.new (λ_=>False) h o).trans (Ch.put (S:=λj=>j=h.next) _ _ rfl) λj hj q=>by rw[q]at hj;omega
end
end Go.Vm
namespace Go.Ln
def Wds.aqr:∀{ws:Wds} {k:Nat},k<ws.len->∃w,ws.get? k=some w
 | .nil,_,h=>absurd h (by simp[Wds.len])
 | .cons k t ks _,0,_=>⟨_,rfl⟩
 | .cons _ _ _ r,n+1,h=>by simp only[Wds.len]at h;exact Wds.aqr (ws:=r) (k:=n) (by omega)
def Wds.drop:Wds->Nat->Wds
 |w,0=>w
 | .nil,_+1=>.nil
 | .cons _ _ _ r,n+1=>r.drop n
def Wds.len_drop:∀{ws:Wds} {k:Nat},(ws.drop k).len=ws.len - k
 | .nil,0=>rfl
 | .nil,k+1=>by simp[Wds.drop,Wds.len]
 | .cons _ _ _ _,0=>rfl
 | .cons _ _ _ r,k+1=>by simp only[Wds.drop,Wds.len];rw[Wds.len_drop (ws:=r)];omega
def Wds.OI:∀{ws:Wds} {k m:Nat},(ws.drop k).get? m=ws.get? (k+m)
 | .nil,0,m=>by simp[Wds.drop]
 | .nil,k+1,m=>by simp[Wds.drop,Wds.get?]
 | .cons _ _ _ _,0,m=>by simp[Wds.drop]
 | .cons _ _ _ r,k+1,m=>by rw[show k+1+m=(k+m)+1 by omega];simp only[Wds.drop,Wds.get?];exact Wds.OI
def WAt.drop{P:Pos->Prop}{h:Hp}:∀{ws:Wds} {cs:List V} {k:Nat},WAt P h ws cs->WAt P h (ws.drop k) (cs.drop (k*3))
 | .nil,_,0,w=>w
 | .nil,cs,k+1,w=>by rw[show cs= [] from w];simp[Wds.drop,WAt]
 | .cons _ _ _ _,_,0,w=>by simpa[Wds.drop]using w
 | .cons _ _ _ r,_,k+1,⟨vk,c,cr,e,o,p,a,b⟩=>by
  rw[e,show(k+1)*3=3+k*3 by omega,<-List.drop_drop];exact WAt.drop (ws:=r) b
def WS(P:Pos->Prop)(h:Hp)(v:V)(ws:Wds):Prop:=∃cs,Sl h.next.nat h 3 v ws.len cs/\zn 3 v/\(∀j,bI v=some j->P j)/\WAt P h ws cs
def UO.ws{P:Pos->Prop}{h:Hp}{v:V}{ws:Wds}(t:UO P h v ws):WS P h v ws:=by
 obtain⟨cs,o,p,a⟩:=t;refine⟨cs,o.sl,?_,p,a⟩;intro i q n c e;rcases o.is with⟨_,b⟩|⟨_,b,_⟩
 ·rw[b]at e;cases e
 ·rw[b]at e;cases e;rfl
def WS.ch{P P' S:Pos->Prop}{h h':Hp}{v:V}{ws:Wds}(t:WS P h v ws)(c:Ch S h h')(b:∀j:Pos,j.nat<h.next.nat->P j->P' j/\¬S j):WS P' h' v ws:=by
 obtain⟨cs,o,k,p,a⟩:=t;exact⟨cs,(o.ch c (j! _) λj hj=>(b j (o.eY hj) (p j hj)).2).le c.next,k,λj hj=>(b j (o.eY hj) (p j hj)).1,a.ch c b⟩
def WS.len{P:Pos->Prop}{h:Hp}{v:V}{ws:Wds}(t:WS P h v ws)(h':Hp):aZ 2 v h'=D (Y U (ws.len:Int)) h':=by
 obtain⟨cs,o,-⟩:=t;exact o.length
def WS.cell{P:Pos->Prop}{h:Hp}{v:V}{ws:Wds}(t:WS P h v ws):v.cells= [v]/\ig v=true:=by
 obtain⟨cs,o,-⟩:=t;exact o.cell
def WS.from{P:Pos->Prop}{h:Hp}{v:V}{ws:Wds}(t:WS P h v ws){k:Nat}(f:k<=ws.len):∃b,(∀h',fM 3 v (some (Y U (k:Int))) none none h'=D b h')/\WS P h b (ws.drop k):=by
 obtain⟨cs,o,c,p,a⟩:=t;obtain⟨b,e,s,d,i⟩:=o.from c (by omega) f;exact⟨b,e,cs.drop (k*3),by rw[Wds.len_drop];exact s,d,λj hj=>p j (i j hj),a.drop⟩
def abo(w:Wds)(k:Nat):Bool:=match w.get? k with|some x=>decide (x.kind=1)|none=>false
end Go.Ln
namespace Go.Proofs.Im
def aqz(x:V)(h:Hp):BR d! tA x h=bH 5 x h:=kR
def WS.at{P:Pos->Prop}{h:Hp}{v:V}{ws:Wds}(t:WS P h v ws){k:Nat}{w:Wd}(e:ws.get? k=some w):
  ∃j q vk,(∀h',aX 3 v (Y U (k:Int)) h'=D (X j q) h')/\aF (X j q) h=D (Y U w.kind) h/\aF (X j (q+1)) h=D (H w.text) h/\aF (X j (q+2)) h=D vk h/\UO P h vk w.kids:=by
 obtain⟨cs,o,-,i,x⟩:=t;have d:=Wds.MP e;obtain⟨j,q,e1,-,e2⟩:=o.at d;obtain⟨a,b,vk,c,f⟩:=WAt.get x e;exact⟨j,q,vk,e1,e2 h rfl 0 _ (by omega) a,e2 h rfl 1 _ (by omega) b,e2 h rfl 2 _ (by omega) c,f⟩
def aOQ{b c:Nat}{h:Hp}{i:Pos}{t:TypeId}{L:List V}{s:List Nat}{v:V}{l:List (List Nat)}(d:Bd b h i 5 t L s)(sl:Sl c h 1 v l.length (l.map H))(e:zn 1 v)(y:c<=h.next.nat)
  (hn:l.length<=1000000) (z:fP l<=100000000) (hb:∀t∈l,∀c∈t,c<256) (hj:l.length<=1\/dH [32] l≠ []) (P:s.length+(dH [32] l).length+2<=1000000000):
  ∃r h' f,uM [X i 0,v] h=D r h'/\Bd b h' i 5 t f (s++(dH [32] l++ [13,10]))/\Stp (OfB i 5 L) h (OfB i 5 f) h'/\(∀k,k≠5->k≠6->f[k]?=L[k]?)/\f.length=L.length:=by
 obtain⟨r1,J,e1,rfl,g⟩:=UF sl e y hn (by simp) z hb (by simp) hj;have o:=d.ch g λ_ _ _ q=>q;obtain⟨r2,M,I,e2,p,m,B,E⟩:=Uj o (dH [32] l) (by omega);obtain⟨Q,x,j,w,u,n,C,G⟩:=Uj p [13,10] (by simp;omega);rw[aJT];simp(disch:=omega)only[vvB,seval,aKl,aCp,aCo,e1,e2,w];refine⟨_,x,j,rfl,by rw[<-List.append_assoc];exact u,(((Stp.refl (OfB i 5 L) h).step g λ_ q=>q.elim).trans m).trans n,λk a b=>(C k a b).trans (B k a b),G.trans E⟩
def aHq(h:Hp):∃h',acF [] h=D (afW 2 [119,111,114,100,115] false false) h'/\Ch (λ_=>False) h h':=by
 rw[aJU];simp(disch:=omega)only[vvB,seval,aEd,aCr,aCq,ap8,aDd,aHE (dY _ _)];exact⟨_,by simp only[bV,bQ,vvB,seval,aqz,aIb (kJ _ _ _),bT];rfl,ail _ _ _⟩
def ar9{P:Pos->Prop}{h:Hp}{v:V}{w:Wds}(t:WS P h v w)(k:Nat):KX [v,Y U (k:Int)] h=D (K (abo w k)) h:=by
 rw[aHh];by_cases b:k<w.len
 ·obtain⟨x,a⟩:=Wds.aqr b;obtain⟨j,q,vk,e1,e2,c,d,e⟩:=WS.at t a;simp(disch:=omega)only[vvB,seval,axX,af7,amh,WS.len t,e1,e2,l!];simp only[bV,bQ,vvB,seval,bT];unfold abo;rw[a]
 ·simp(disch:=omega)only[vvB,seval,axX,af7,amh,WS.len t];simp only[bV,bQ,vvB,seval,bT];unfold abo;cases a:w.get? k with
  |none=>rfl
  |some x=>exact absurd (Wds.MP a) b
end Go.Proofs.Im
namespace Go.Vm
section
variable{h:Hp}
def vV(t:TypeId)(a:List Nat):bU t [H []] 1 [(0,1,H a)] h=D (.slice h.next 0 1 (.kn 1)) (h.new (O (N t true) [H a])):=(rfl)
def aqb(t:TypeId)(a b:List Nat):bU t [H [],H []] 2 [(0,1,H a),(1,1,H b)] h=D (.slice h.next 0 2 (.kn 2)) (h.new (O (N t true) [H a,H b])):=(rfl)
def aqa(t:TypeId)(a b c d:List Nat):bU t [H [],H [],H [],H []] 4 [(0,1,H a),(1,1,H b),(2,1,H c),(3,1,H d)] h=D (.slice h.next 0 4 (.kn 4)) (h.new (O (N t true) [H a,H b,H c,H d])):=(rfl)
def Sl.aSY{el:TypeId}{h:Hp}(l:List V){n:Nat}(hn:l.length=n):Sl (h.next.nat+1) (h.new (O (N el true) l)) 1 (.slice h.next 0 n (.kn n)) n l:=⟨by omega,.inr ⟨h.next,0,_,N el true,l,rfl,by omega,by rw[dY];rfl,λk _=>by rw[u!]⟩⟩
def anH{i:Pos}{n:Nat}:zn 1 (.slice i 0 n (.kn n)):=λ_ _ _ _ e=>by cases e;exact j! _
end
end Go.Vm
namespace Go.Proofs.Im
def aDZ(n:Nat)(v:V):V:=if n=0 then v else afW 2 [119,111,114,100,115] false false
def aAc{b:Nat}{h:Hp}{i:Pos}{t el:TypeId}{L:List V}{s:List Nat}(d:Bd b h i 5 t L s)(l:List (List Nat)){n:Nat}(hn:l.length=n)(hl:n<=100)
  (o:fP l<=100000000) (hb:∀t∈l,∀c∈t,c<256) (hj:n<=1\/dH [32] l≠ []) (m:s.length+(dH [32] l).length+2<=1000000000):
  ∃r h' a,uM [X i 0,.slice h.next 0 n (.kn n)] (h.new (O (N el true) (l.map H)))=D r h'/\Bd b h' i 5 t a (s++(dH [32] l++ [13,10]))/\Stp (OfB i 5 L) h (OfB i 5 a) h'/\(∀k,k≠5->k≠6->a[k]?=L[k]?)/\a.length=L.length:=by
 subst hn;have f:Ch (λ_=>False) h (h.new (O (N el true) (l.map H))):=Ch.new _ _ _;obtain⟨r,h',a,e,j,g,p,u⟩:=aOQ (d.ch f λ_ _ _ q=>q) (Sl.aSY (el:=el) (h:=h) (l.map H) (by simp)) anH (by rw[bJ];omega) (by omega) o hb hj m;exact⟨r,h',a,e,j,((Stp.refl (OfB i 5 L) h).step f λ_ q=>q.elim).trans g,p,u⟩
def at7(n:Nat)(t:List Nat):List Nat:=if n=0 then t++ [13,10] else []
def aFn{P:Pos->Prop}{b:Nat}{h:Hp}{i:Pos}{t:TypeId}{L:List V}{s:List Nat}{c vw:V}{w:Wds}(d:Bd b h i 5 t L s)(M:L[3]?=some vw)(G:WS P h vw w)(hs:s.length<=100000000):
  ∃r h' a,aEu [c,X i 0] h=D r h'/\r=aDZ w.len (afW 0 [] false false)/\Bd b h' i 5 t a (s++at7 w.len [42,32,67,65,80,65,66,73,76,73,84,89,32,73,77,65,80,52,114,101,118,49,32,76,73,84,69,82,65,76,43,32,85,73,68,80,76,85,83,32,77,79,86,69,32,67,79,78,68,83,84,79,82,69])/\Stp (OfB i 5 L) h (OfB i 5 a) h'/\(∀k,k≠5->k≠6->a[k]?=L[k]?)/\a.length=L.length:=by
 obtain⟨m,f⟩:∃m,m=h.new (O (N tA true) [Y U 0,H [],K false,K false,K false]):=⟨_,rfl⟩
 have C:Ch (λ_=>False) h m:=by rw[f];exact Ch.new _ _ _
 have E:m.get h.next=some (O (N tA true) [Y U 0,H [],K false,K false,K false]):=by rw[f];exact dY _ _
 have n1:m.next.nat=h.next.nat+1:=by rw[f,bJ]
 have v:=d.ch C λ_ _ _ q=>q;have B:aF (X i 3) m=D vw m:=by rw[ED v.get];simp only[M]
 have no:∀{l:List V},OfB i 5 L h.next->False:=λo=>by have:=(o.from d _).2;omega
 have fin:∀{p:Hp} {l:List V},Stp (OfB i 5 L) h (OfB i 5 l) p->∀o,Stp (OfB i 5 L) h (OfB i 5 l) (p.put h.next o):=λg o=>⟨g.ch.trans (Ch.put (S:=λj=>j=h.next) _ _ rfl) λj hj q=>by rw[q]at hj;omega,g.sub⟩
 have u:Stp (OfB i 5 L) h (OfB i 5 L) m:=(Stp.refl _ _).step C λ_ q=>q.elim;rw[aJY]
 suffices Q:aV d! [.cell 4 tA] (λr h'=>∃a,r=aDZ w.len (afW 0 [] false false)/\Bd b h' i 5 t a (s++at7 w.len [42,32,67,65,80,65,66,73,76,73,84,89,32,73,77,65,80,52,114,101,118,49,32,76,73,84,69,82,65,76,43,32,85,73,68,80,76,85,83,32,77,79,86,69,32,67,79,78,68,83,84,79,82,69])/\Stp (OfB i 5 L) h (OfB i 5 a) h'/\(∀k,k≠5->k≠6->a[k]?=L[k]?)/\a.length=L.length) (apm (T.set (some (X i 0)) (c! 1) T.nil) h) by
  obtain⟨r,h',e,a,q⟩:=Q;exact⟨r,h',a,e,q⟩
 by_cases z:w.len=0
 ·obtain⟨r2,p,I,e2,J,g,W,Z⟩:=aAc (el:=9) v [[42,32,67,65,80,65,66,73,76,73,84,89,32,73,77,65,80,52,114,101,118,49,32,76,73,84,69,82,65,76,43,32,85,73,68,80,76,85,83,32,77,79,86,69,32,67,79,78,68,83,84,79,82,69]] (n:=1) rfl (by omega) (by simp[fP]) (by simp) (.inl (j! _)) (by simp[dH];omega);have y:=(g.ch.get h.next (by omega) λo=>no (l:=L) o).trans E;simp only[List.map_cons,List.map_nil]at e2;simp(disch:=omega)only[vvB,seval,apm,aCB,aCA,aCD,aCz,ap8,<-f,B,WS.len G,z,vV,e2,aDe,aHE y];refine aV.ret (by simp only[bQ,vvB,seval,aqz,aIb (kJ _ _ _),bT];rfl) ⟨I,?_,?_,fin (u.trans g) _,W,Z⟩
  ·unfold aDZ;rw[if_pos rfl]
  ·have x:=J.chO (Ch.put (S:=λj=>j=h.next) p (some (O (N tA true) (awI 0 [] false false))) rfl) λj o e=>by
    subst e;rcases g.sub _ o with o|o
    ·exact no (l:=L) o
    ·omega
   unfold at7;rw[if_pos rfl];simpa[dH]using x
 ·obtain⟨p,e2,g⟩:=aHq m;have y:=(g.get h.next (by omega) λq=>q).trans E;simp(disch:=omega)only[vvB,seval,apm,aCB,aCA,aCE,ap8,<-f,B,WS.len G,e2,aHE y];refine aV.ret (by simp only[bQ,vvB,seval,aqz,aIb (kJ _ _ _),bT];rfl) ⟨L,?_,?_,fin (u.step g λ_ q=>q.elim) _,λ_ _ _=>rfl,rfl⟩
  ·unfold aDZ;rw[if_neg z]
  ·have x:=(v.ch g λ_ _ _ q=>q).chO (Ch.put (S:=λj=>j=h.next) p (some (O (N tA true) (awI 2 [119,111,114,100,115] false false))) rfl) λj o e=>by
    subst e;exact no (l:=L) o
   unfold at7;rw[if_neg z];simpa using x
end Go.Proofs.Im
