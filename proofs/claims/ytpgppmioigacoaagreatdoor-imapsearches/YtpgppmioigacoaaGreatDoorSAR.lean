/- Lemmas. No conditions. -/
import Derived.Test.YtpgppmioigacoaaGreatDoorSAQ
import Derived.Test.YtpgppmioigacoaaGreatDoorSAI
set_option linter.all false
set_option maxRecDepth 100000
open List renaming getElem?_set_ne→a!,getElem?_set_self→b!,getElem?_eq_some_iff→e!,getElem?_eq_getElem→g!,length_append→h!,take_length→i!,take_add_one→p!,mem_append→q!,length_nil→r!
open Go.Vm.Pos renaming of→c!
open Go.Proofs.Tryz renaming prog→d!
open Nat renaming le_refl→j!,add_zero→l!,lt_of_lt_of_le→o!,mul_le_mul→t!,zero_add→u!,beq_refl→v!,beq→w!
open Int renaming tdiv_eq_ediv_of_nonneg→k!,tdiv→n!,zero_add→x!
open Go.Vm.V renaming int→Y,ptr→X,bool→K,str→H
open Go.IntKind renaming i64→U
open Go.Vm.Ob renaming cells→O
open Go.Vm.Wr renaming rw→N
open Go.Vm.R renaming ok→D
noncomputable section
open Go Go.Proofs Go.Vm Go.Ln
namespace Go.Proofs.Im
def akM{s:List Nat}{h:Hp}(hl:s.length<1000000000)(L:∀c∈s,c<256):∃r h',uY [H s] h=D r h'/\r=H (foldM s)/\Ch (λ_=>False) h h':=by
 rw[aFK];show aX d! _ (λr h'=>r=H (foldM s)/\Ch (λ_=>False) h h') _;simp(disch:=omega)only[vvB,seval,aFh,awU,awT,awS,auV];refine Oc.then (dW (n:=s.length) (λm fr g=>∃k rest,fr.get (c! 0)=some (H s)/\fr.get (c! 3)=some (.slice h.next 0 k (.kn s.length))/\fr.get (c! 10)=some (Y U (s.length:Int))/\fr.get (c! 11)=some (Y U (k:Int))/\
   k+m=s.length/\g.get h.next=some (O (N 5 true) (bys (foldM (s.take k))++rest))/\rest.length=m/\Ch (λ_=>False) h g/\h.next.nat<g.next.nat)
  (A:=λfr g=>fr.get (c! 3)=some (.slice h.next 0 s.length (.kn s.length))/\∃rest,g.get h.next=some (O (N 5 true) (bys (foldM s)++rest))/\Ch (λ_=>False) h g) (B:=λ_ _=>False) (by rw[dP];omega) ?_ ?_) ?_ ?_
 ·exact⟨0,times s.length [Y .u8 0],qK0,qK0,qK0,qK1,by omega,by simp[foldM,bys,dU],aDK _ _,Ch.new _ _ _,by rw[bG];omega⟩
 ·rintro m fr g ⟨k,rest,o,f3,e,i,hk,t,z,f,W⟩;by_cases Z:m=0
  ·subst Z;have I:k=s.length:=by omega
   subst I;simp(disch:=omega)only[vvB,seval,VG,UZ,e,i];exact⟨rfl,qK2 f3,rest,by rw[i!]at t;exact t,f⟩
  ·have l:k<s.length:=by omega
   obtain⟨x,a,rfl⟩:∃x r,rest=x::r:=by
    cases rest with
    |nil=>simp at z;omega
    |cons x r=>exact⟨x,r,rfl⟩
   have S:=L s[k] (List.getElem_mem _);have C:∀h,mF (H s) (Y U (k:Int)) h=D (Y .u8 ((s[k]:Nat):Int)) h:=λh=>Z9 (g! l);generalize G:s[k]=c at S C;have ht:foldM (s.take (k+1))=foldM (s.take k)++ [PX c]:=by
    rw[p!,g! l,G];simp[foldM]
   have J:(bys (foldM (s.take k))).length=k:=by rw[Dj];simp[foldM];omega
   have E:=λy:V=>aOj (el:=5) (bt:=1) (y:=y) t J l W;have fin:∀p,p=(g.new (O (N 5 true) [Y .u8 ((PX c:Nat):Int)])).put h.next (some (O (N 5 true) (bys (foldM (s.take k))++Y .u8 ((PX c:Nat):Int)::a)))->
     p.get h.next=some (O (N 5 true) (bys (foldM (s.take (k+1)))++a))/\Ch (λ_=>False) h p/\h.next.nat<p.next.nat:=by
    rintro p rfl;refine⟨?_,?_,by rw[jJ,bG];omega⟩
    ·rw[jZ,ht,aaD];simp[bys]
    ·refine⟨by rw[jJ,bG];have:=f.next;omega,λj hj hn=>?_⟩;rw[Uf _ (by omega),new_ne _ (by have:=f.next;omega)];exact f.get j hj hn
   by_cases P:65<=c
   ·by_cases Q:c<=90
    ·have d:PX c=c+32:=by unfold PX;rw[if_pos ⟨P,Q⟩]
     have M:∀h,aJ .add .none (Y .u8 (c:Int)) (Y .u8 32) h=D (Y .u8 ((c+32:Nat):Int)) h:=λh=>aD2 (b:=32) (by omega);rw[d]at fin;simp(disch:=omega)only[vvB,seval,VG,UZ,aa9,aa8,aa7,aa6,aa5,aa4,o,f3,e,i,C,M,E];obtain⟨u,v,w⟩:=fin _ rfl;exact⟨m - 1,by omega,k+1,a,qK2 o,qK0,qK2 e,qK1,by omega,u,by simp at z;omega,v,w⟩
    ·have d:PX c=c:=by unfold PX;rw[if_neg (by omega)]
     rw[d]at fin;simp(disch:=omega)only[vvB,seval,VG,UZ,aa9,aa8,aa7,aa6,aa5,aa4,o,f3,e,i,C,E];obtain⟨u,v,w⟩:=fin _ rfl;exact⟨m - 1,by omega,k+1,a,qK2 o,qK0,qK2 e,qK1,by omega,u,by simp at z;omega,v,w⟩
   ·have d:PX c=c:=by unfold PX;rw[if_neg (by omega)]
    rw[d]at fin;simp(disch:=omega)only[vvB,seval,VG,UZ,aa9,aa8,aa7,aa6,aa5,aa4,o,f3,e,i,C,E];obtain⟨u,v,w⟩:=fin _ rfl;exact⟨m - 1,by omega,k+1,a,qK2 o,qK0,qK2 e,qK1,by omega,u,by simp at z;omega,v,w⟩
 ·rintro fr g ⟨f3,rest,t,f⟩;have hb:=ayg (n:=s.length) t (aGN L);rw[show(foldM s).length=s.length by simp[foldM]]at hb;simp(disch:=omega)only[vvB,seval,ar5,f3,hb];exact aX.ret (qT0) ⟨rfl,f⟩
 ·intro fr g q;exact q.elim
def TB{s:List Nat}(h:Hp)(hl:s.length<1000000000)(a:∀c∈s,c<256):∃h',uY [H s] h=D (H (foldM s)) h'/\Ch (λ_=>False) h h':=by
 obtain⟨r,h',e,rfl,c⟩:=akM hl a;exact⟨h',e,c⟩
structure Bd (b:Nat) (h:Hp) (i:Pos) (q:Nat) (t:TypeId) (l:List V) (s:List Nat):Prop where
 hb:b<=i.nat
 hi:i.nat<h.next.nat
 get:h.get i=some (O (N t true) l)
 addr:l[q]?=some .cZ\/l[q]?=some (X i q)
 buf:∃vb,l[q+1]?=some vb/\Ow b h 5 1 vb s.length (bys s)/\∀j,bV vb=some j->j≠i
 lies:liesAt d! d!.depth t (l.length / d!.cellsOf t) q 141 1=true
def Bd.ch{b:Nat}{h h':Hp}{i:Pos}{q:Nat}{t:TypeId}{l:List V}{s:List Nat}{S:Pos->Prop}(d:Bd b h i q t l s)(c:Ch S h h')(e:∀j:Pos,b<=j.nat->j.nat<h.next.nat->¬S j):Bd b h' i q t l s:=by
 obtain⟨vb,f,a,g⟩:=d.buf;refine⟨d.hb,o! d.hi c.next,by rw[c.get i d.hi (e i d.hb d.hi)];exact d.get,d.addr,⟨vb,f,a.ch c λj hj=>e j (a.fF hj).1 (a.fF hj).2,g⟩,d.lies⟩
def Tv(l:List V)(q:Nat)(v:V):(l.set q v).length=l.length:=by simp
def avS{b:Nat}{h:Hp}{i:Pos}{q:Nat}{t:TypeId}{l:List V}{s:List Nat}(d:Bd b h i q t l s):
  ∃r h',agX [X i q] h=D r h'/\Bd b h' i q t (l.set q (X i q)) s/\Ch (λj=>j=i) h h'/\h'.next=h.next:=by
 rw[aFI];show aX d! _ (λr h'=>Bd b h' i q t (l.set q (X i q)) s/\Ch (λj=>j=i) h h'/\h'.next=h.next) _;have e:=d.get;rcases d.addr with c|c
 ·have f:aG (X i q) h=D .cZ h:=by rw[D8 e];simp only[c]
  have a:q<l.length:=(e!.1 c).1;have p:=aI1 e c;have v:=aEq (P:=d!) (u:=141) e c d.lies;have o:=TY e (y:=X i q) ⟨rfl,rfl⟩ a;have m:axN [X i q] h=D (X i q) h:=rfl;simp(disch:=omega)only[vvB,seval,axb,ale,awG,l!,f,aid,p,m,v,o];refine aX.nor (qT0) ⟨?_,Ch.put h _ rfl,rfl⟩;obtain⟨vb,w,x,g⟩:=d.buf;refine⟨d.hb,d.hi,jZ _ _ _,.inr (by rw[b! a]),⟨vb,?_,x.ch (Ch.put (S:=λj=>j=i) h _ rfl) λj hj=>g j hj,g⟩,by rw[Tv];exact d.lies⟩;rw[a! (by omega)];exact w
 ·have f:aG (X i q) h=D (X i q) h:=by rw[D8 e];simp only[c]
  have a:q<l.length:=(e!.1 c).1;simp(disch:=omega)only[vvB,seval,axb,ale,awF,l!,f,fM,auG (n:=2) rfl];have z:l.set q (X i q)=l:=by
   apply List.ext_getElem?;intro k;by_cases hk:q=k
   ·subst hk;rw[b! a,c]
   ·rw[a! hk]
  rw[z];exact aX.nor (qT0) ⟨d,Ch.refl _ _,rfl⟩
def OfB(i:Pos)(q:Nat)(l:List V)(j:Pos):Prop:=j=i\/∃v,l[q+1]?=some v/\bV v=some j
def TS{b:Nat}{h:Hp}{i:Pos}{q:Nat}{ty:TypeId}{l:List V}{s:List Nat}(d:Bd b h i q ty l s)(t:List Nat)(J:s.length+t.length<=1000000000):
  ∃r h' p,zi [X i q,H t] h=D r h'/\Bd b h' i q ty p (s++t)/\Stp (OfB i q l) h (OfB i q p) h'/\(∀k,k≠q->k≠q+1->p[k]?=l[k]?)/\p.length=l.length:=by
 obtain⟨r1,o,e1,c,B,n1⟩:=avS d;obtain⟨vb,b1,b2,u⟩:=c.buf;obtain⟨v',g,e2,o2,v,i2⟩:=aJR (bt:=1) (t:=t) b2 (by have:=c.hb;have:=c.hi;omega) (by omega);have f:q+1<(l.set q (X i q)).length:=(e!.1 b1).1;have x:aG (X i (q+1)) o=D vb o:=by rw[D8 c.get];simp only[b1]
 have C:g.get i=some (O (N ty true) (l.set q (X i q))):=by rw[v.get i c.hi λhj=>u i hj rfl];exact c.get
 have z:=TY C (y:=v') o2.cell f;have w:Ch (λj=>j=i) g (g.put i (some (O (N ty true) ((l.set q (X i q)).set (q+1) v')))):=Ch.put g _ rfl;refine⟨.tuple (.cons (Y U (t.length:Int)) (.cons .oQ .nil)),g.put i (some (O (N ty true) ((l.set q (X i q)).set (q+1) v'))),(l.set q (X i q)).set (q+1) v',?_,?_,?_,λk hk E=>by rw[a! (by omega),a! (by omega)],by simp⟩
 ·rw[aFJ];simp(disch:=omega)only[vvB,seval,aFg,awR,awQ,awP,awO,e1,x,e2,z];simp only[bU,bT,vvB,seval,bW];rfl
 ·refine⟨d.hb,by rw[jJ];have:=c.hi;have:=v.next;omega,jZ _ _ _,.inr ?_,⟨v',?_,?_,?_⟩,by rw[Tv];exact c.lies⟩
  ·rw[a! (by omega),b! (by simp at f;omega)]
  ·rw[b! f]
  ·have o3:=o2.ch w λj hj=>by
    rcases i2 j hj with a|a
    ·exact u j a
    ·intro e;rw[e]at a;have:=c.hi;omega
   rw[h!];exact o3
  ·intro j hj;rcases i2 j hj with a|a
   ·exact u j a
   ·intro e;rw[e]at a;have:=c.hi;omega
 ·have m:l[q+1]?=some vb:=by rw[a! (by omega)]at b1;exact b1
  have G:Stp (OfB i q l) h (OfB i q l) o:=⟨B.mono λj _ e=>.inl e,λ_ q=>.inl q⟩
  have I:Stp (OfB i q l) o (OfB i q ((l.set q (X i q)).set (q+1) v')) g:=⟨v.mono λj _ hj=>.inr ⟨vb,m,hj⟩,λj hj=>by
   rcases hj with hj|⟨v2,n,hj⟩
   ·exact .inl (.inl hj)
   ·rw[b! f]at n;cases n;rcases i2 j hj with a|a
    ·exact .inl (.inr ⟨vb,m,a⟩)
    ·exact .inr a⟩
  exact(G.trans I).step w λj e=>.inl e
def OfB.from{b:Nat}{h:Hp}{i:Pos}{q:Nat}{t:TypeId}{l:List V}{s:List Nat}(d:Bd b h i q t l s)(j:Pos)(o:OfB i q l j):b<=j.nat/\j.nat<h.next.nat:=by
 rcases o with rfl|⟨v,a,hj⟩
 ·exact⟨d.hb,d.hi⟩
 ·obtain⟨vb,b1,b2,c⟩:=d.buf;rw[b1]at a;cases a;exact b2.fF hj
def Bd.chO{b:Nat}{h h':Hp}{i:Pos}{q:Nat}{t:TypeId}{l:List V}{s:List Nat}{S:Pos->Prop}(d:Bd b h i q t l s)(c:Ch S h h')(e:∀j:Pos,OfB i q l j->¬S j):Bd b h' i q t l s:=by
 obtain⟨vb,a,f,g⟩:=d.buf;refine⟨d.hb,o! d.hi c.next,by rw[c.get i d.hi (e i (.inl rfl))];exact d.get,d.addr,⟨vb,a,f.ch c λj hj=>e j (.inr ⟨vb,a,hj⟩),g⟩,d.lies⟩
def aki{b:Nat}{h:Hp}{i:Pos}{q:Nat}{ty:TypeId}{l:List V}{s:List Nat}(d:Bd b h i q ty l s)(t:List Nat)(g:s.length+t.length<=1000000000):
  ∃r h' a,zi [X i q,H t] h=D r h'/\Bd b h' i q ty a (s++t)/\Ch (λj=>b<=j.nat) h h'/\(∀k,k≠q->k≠q+1->a[k]?=l[k]?)/\a.length=l.length:=by
 obtain⟨r,h',a,e,f,c,k,n⟩:=TS d t g;exact⟨r,h',a,e,f,c.ch.mono λj _ o=>(o.from d j).1,k,n⟩
def aer{b:Nat}{h:Hp}{i:Pos}{q:Nat}{t:TypeId}{l:List V}{s:List Nat}(d:Bd b h i q t l s)(h0:s≠ [])(w:∀c∈s,c<256)(hl:s.length<=1000000000):
  ∃h',Kr [X i q] h=D (H s) h'/\Ch (λj=>OfB i q l j/\j≠i) h h'/\h'.next=h.next:=by
 obtain⟨vb,b1,b2,o⟩:=d.buf;have a:aG (X i (q+1)) h=D vb h:=by rw[D8 d.get];simp only[b1]
 have k:aZ 2 vb h=D (Y U (s.length:Int)) h:=b2.sl.length;have e:0<s.length:=by cases s with|nil=>exact absurd rfl h0|cons _ _=>simp
 rcases b2.is with⟨e0,_⟩|⟨j,rfl,r,u,f,p⟩
 ·omega
 ·obtain⟨m,v⟩:∃m,s.length=m+1:=⟨s.length - 1,by omega⟩
  have g:CW (.slice j 0 s.length (.un 1)) h=D (X j 0) h:=by rw[v];rfl
  have n:=atQ p w (by omega) h0;have x:eqV (V.slice j 0 s.length (.un 1)) (V.slice j 0 s.length (.un 1))=true:=by
   show(match j.eq j,w! 0 0,w! s.length s.length with
    |true,true,true=>w! 1 1
    |_,_,_=>false)=true
   rw[Pos.eq_self,v!,v!];rfl
  refine⟨h.put j (some (O .ro (bys s))),?_,Ch.put h _ ⟨.inr ⟨_,b1,rfl⟩,o j rfl⟩,rfl⟩;rw[asD];simp(disch:=omega)only[vvB,seval,axd,awU,ali,a,k,g,n,LY (m:=λh=>aG (X i (q+1)) h) a x];simp only[bU,bT,vvB,seval,bW]
def aDM{b:Nat}{h:Hp}{i:Pos}{q:Nat}{t:TypeId}{l:List V}{s:List Nat}(d:Bd b h i q t l s)(h0:s≠ [])(a:∀c∈s,c<256)(hl:s.length<=1000000000):
  ∃h',Kr [X i q] h=D (H s) h'/\Ch (λj=>b<=j.nat/\j≠i) h h'/\h'.next=h.next:=by
 obtain⟨h',e,c,n⟩:=aer d h0 a hl;exact⟨h',e,c.mono λj _ o=>⟨(o.1.from d j).1,o.2⟩,n⟩
def aGH{b:Nat}{h:Hp}{i:Pos}{q:Nat}{t:TypeId}{l:List V}(d:Bd b h i q t l [])(a:l[q+1]?=some .aQ)(n:Nat)(h0:0<n)(hn:n<=1000000000):
  ∃r h' o,aoM [X i q,Y U (n:Int)] h=D r h'/\Bd b h' i q t o []/\Ch (λj=>b<=j.nat) h h'/\o.length=l.length/\(∀k,k≠q->k≠q+1->o[k]?=l[k]?):=by
 have f:aG (X i (q+1)) h=D .aQ h:=by rw[D8 d.get];simp only[a]
 have c:q+1<l.length:=(e!.1 a).1;have p:(h.new (O (N 5 false) [])).get i=some (O (N t true) l):=by rw[new_ne h (by have:=d.hi;omega)];exact d.get
 have s:aG (X i (q+1)) (h.new (O (N 5 false) []))=D .aQ (h.new (O (N 5 false) [])):=by rw[D8 p];simp only[a]
 have w:=TY p (y:=.slice h.next 0 0 (.un 1)) ⟨rfl,rfl⟩ c;have v:axM [Y U (n:Int)] h=D (.slice h.next 0 n (.un 1)) (h.new (O (N 5 false) [])):=aD3 (by omega);have u:aJ .mul .none (Y U 2) (Y U 0) h=D (Y U 0) h:=rfl;have x:Ch (λj=>b<=j.nat) h (h.new (O (N 5 false) [])):=Ch.new _ _ _;have z:Ch (λj=>j=i) (h.new (O (N 5 false) [])) ((h.new (O (N 5 false) [])).put i (some (O (N t true) (l.set (q+1) (.slice h.next 0 0 (.un 1)))))):=Ch.put _ _ rfl;refine⟨.tuple .nil,(h.new (O (N 5 false) [])).put i (some (O (N t true) (l.set (q+1) (.slice h.next 0 0 (.un 1))))),l.set (q+1) (.slice h.next 0 0 (.un 1)),?_,?_,x.trans (z.mono λj _ e=>by rw[e];exact d.hb) (λ_ _ q=>q),by simp,λk _ hk=>by rw[a! (by omega)]⟩
 ·rw[aFH];simp(disch:=omega)only[vvB,seval,aFf,awE,awD,awC,f,s,aeL,Wl,u,x!,v,w,aCb,aCh,az3 (m:=λh=>aG (X i (q+1)) h) f f (show eqV V.aQ V.aQ=true from rfl)];simp only[bU,bT,vvB,seval,bW];rfl
 ·refine⟨d.hb,by rw[jJ,bG];have:=d.hi;omega,jZ _ _ _,?_,⟨.slice h.next 0 0 (.un 1),by rw[b! c],⟨by simp[bys],.inr ⟨h.next,rfl,by have:=d.hb;have:=d.hi;omega,by rw[jJ,bG];omega,false,?_⟩⟩,?_⟩,by rw[Tv];exact d.lies⟩
  ·rcases d.addr with g|g
   ·left;rw[a! (by omega)];exact g
   ·right;rw[a! (by omega)];exact g
  ·rw[Uf _ (by have:=d.hi;omega),dU];rfl
  ·intro j hj e;cases hj;have:=d.hi;rw[<-e]at this;omega
def aJn{b:Nat}{h:Hp}{i:Pos}{q:Nat}{t:TypeId}{l:List V}(d:Bd b h i q t l [])(c:l[q+1]?=some .aQ)(n:Nat)(hn:n<=1000000000):
  ∃r h' s,aoN [X i q,Y U (n:Int)] h=D r h'/\Bd b h' i q t s []/\Ch (λj=>b<=j.nat) h h'/\s.length=l.length/\(∀k,k≠q->k≠q+1->s[k]?=l[k]?):=by
 obtain⟨r1,g,e1,o,v,n1⟩:=avS d;have a:(l.set q (X i q))[q+1]?=some .aQ:=by rw[a! (by omega)];exact c
 have f:aG (X i (q+1)) g=D .aQ g:=by rw[D8 o.get];simp only[a]
 have u:Ch (λj=>b<=j.nat) h g:=v.mono λj _ e=>by rw[e];exact d.hb
 have C:= @LY (λh=>aG (X i (q+1)) h) V.aQ;by_cases h0:n=0
 ·refine⟨.tuple .nil,g,l.set q (X i q),?_,o,u,by simp,λk hk _=>by rw[a! (by omega)]⟩;rw[asC];simp(disch:=omega)only[vvB,seval,axc,awQ,alg,alf,e1,f,aeL,Wl,LY (m:=λh=>aG (X i (q+1)) h) f (show eqV V.aQ V.aQ=true from rfl)];simp only[bU,bT,vvB,seval,bW];rfl
 ·obtain⟨r2,y,z,e2,x,w,B,o2⟩:=aGH o a n (by omega) hn;refine⟨.tuple .nil,y,z,?_,x,u.trans w λ_ _ q=>q,by rw[B];simp,λk hk p=>by rw[o2 k hk p,a! (by omega)]⟩;rw[asC];simp(disch:=omega)only[vvB,seval,axc,awQ,alg,alf,awH,e1,e2,f,aeL,Wl,LY (m:=λh=>aG (X i (q+1)) h) f (show eqV V.aQ V.aQ=true from rfl)];simp only[bU,bT,vvB,seval,bW];rfl
def strs_get{l:List (List Nat)}{k:Nat}{a:List Nat}(e:l[k]?=some a):(l.map H)[k]?=some (H a):=by rw[List.getElem?_map,e];rfl
def azG:liesAt d! d!.depth 141 (2 / d!.cellsOf 141) 0 141 1=true:=kR
def aI2(h:Hp):eY 141 [.cZ,.aQ] h=D (X h.next 0) (h.new (O (N 141 true) [.cZ,.aQ])):=(rfl)
def take_snoc{α:Type}{l:List α}{k:Nat}{a:α}(e:l[k]?=some a):l.take (k+1)=l.take k++ [a]:=by rw[p!,e];rfl
def akE{c:Nat}{h:Hp}{v:V}{l:List (List Nat)}{sep:List Nat}(s:Sl c h 1 v l.length (l.map H))(ah:zO 1 v)(hc:c<=h.next.nat)(hn:l.length<=1000000)(hs:sep.length<=100)(ht:fV l<=100000000)
  (hb:∀t∈l,∀c∈t,c<256) (ao:∀c∈sep,c<256) (E:l.length<=1\/dN sep l≠ []):
  ∃r h',ahN [v,H sep] h=D r h'/\r=H (dN sep l)/\Ch (λ_=>False) h h':=by
 rw[aHZ];show aX d! _ (λr h'=>r=H (dN sep l)/\Ch (λ_=>False) h h') _;have sl:∀h',aZ 2 v h'=D (Y U (l.length:Int)) h':=λh'=>s.length;cases l with
 |nil=>
  simp(disch:=omega)only[vvB,seval,aom,Zk,Zj,Zi,Zk,sl,r!,show((0:Nat):Int)=0 from rfl];exact aX.ret (qT0) ⟨rfl,Ch.refl _ _⟩
 |cons a r=>
 obtain⟨i0,q0,x0,aj,e0,aw,l0⟩:=s.at1 (m:=0) (by simp);rw[strs_get (show(a::r)[0]?=some a from rfl)]at aj;cases aj;cases r with
 |nil=>
  have M:∀h',bD 1 v (Y U 0) h'=D (X i0 q0) h':=e0;simp(disch:=omega)only[vvB,seval,aom,Zk,Zj,Zi,ahI,aBj,sl,List.length_cons,r!,u!,show((1:Nat):Int)=1 from rfl,M,l0 h rfl];exact aX.ret (r:=H (dN sep [a])) (qT0) ⟨rfl,Ch.refl _ _⟩
 |cons a2 r2=>
 generalize an:a2::r2=b at*;have aD:1<=b.length:=by rw[<-an];simp
 have o:(a::b).length=b.length+1:=by simp
 rw[o]at sl hn;have d:((b.length+1:Nat):Int)=(b.length:Int)+1:=by omega
 rw[d]at sl;have aE:fV (a::b)=a.length+fV b:=by simp[fV]
 obtain⟨G,I⟩:∃G,G=sep.length*b.length:=⟨_,rfl⟩
 have hw:G<=100000000:=by rw[I];exact Nat.le_trans (t! hs (show b.length<=1000000 by omega)) (by omega)
 have C:(sep.length:Int)*((b.length:Int)+1 - 1)=(G:Int):=by
  rw[I,show(b.length:Int)+1 - 1=(b.length:Int) by omega];simp
 have aa:sep.length=0->G=0:=λe=>by rw[I,e,Nat.zero_mul]
 have ay:(1000:Int)<=n! 9223372036854775807 ((b.length:Int)+1 - 1):=by
  rw[k! (by omega)];exact Int.le_ediv_of_mul_le (by omega) (by omega)
 have az:n! 9223372036854775807 ((b.length:Int)+1 - 1)<=9223372036854775807:=by
  rw[k! (by omega)];exact Int.ediv_le_self _ (by omega)
 have qu:∀h',aJ .quo .none (Y U 9223372036854775807) (Y U ((b.length:Int)+1 - 1)) h'=D (Y U (n! 9223372036854775807 ((b.length:Int)+1 - 1))) h':=λh'=>aky (by omega) (by omega) (by omega);have mu:∀h',aJ .mul .none (Y U (sep.length:Int)) (Y U ((b.length:Int)+1 - 1)) h'=D (Y U (G:Int)) h':=λh'=>by rw[akz (by rw[C];omega) (by rw[C];omega),C]
 generalize aB:n! 9223372036854775807 ((b.length:Int)+1 - 1)=qq at*;have J:∀fr,fr.get (c! 0)=some v->fr.get (c! 1)=some (H sep)->fr.get (c! 5)=some (Y U (G:Int))->
   aX d! [.tmp 4] (λr h'=>r=H (dN sep (a::b))/\Ch (λ_=>False) h h') (lF (lF (ala fr h) (bI 1 (dI abz lf))) (aC ak8 (aC ak7 (aC ak6 (aC (aC ak5 (bI 3 (dI aby lf))) (aC ak3 Out.ret)))))):=by
  intro fr P f1 S;simp(disch:=omega)only[vvB,seval,ala,P,sl];refine Oc.then (dW (n:=b.length+1) (λm fr g=>∃k:Nat,fr.get (c! 0)=some v/\fr.get (c! 1)=some (H sep)/\fr.get (c! 39)=some v/\fr.get (c! 40)=some (Y U ((b.length:Int)+1))/\fr.get (c! 41)=some (Y U (k:Int))/\
    fr.get (c! 5)=some (Y U ((G+fV ((a::b).take k):Nat):Int))/\k+m=b.length+1/\g=h)
   (A:=λfr g=>fr.get (c! 0)=some v/\fr.get (c! 1)=some (H sep)/\fr.get (c! 5)=some (Y U ((G+fV (a::b):Nat):Int))/\g=h) (B:=λ_ _=>False) (by rw[dP];omega) ?_ ?_) ?_ ?_
  ·exact⟨0,qK2 P,qK2 f1,qK0,qK0,qK1,by simp only[vvB,seval,S];simp[fV],by omega,rfl⟩
  ·rintro m fr g ⟨k,P,f1,ad,Q,ae,S,hk,rfl⟩;by_cases hz:m=0
   ·simp(disch:=omega)only[vvB,seval,abz,ak9,Q,ae];have Z:k=(a::b).length:=by rw[o];omega
    rw[Z,i!]at S;exact⟨rfl,qK2 P,qK2 f1,qK2 S,rfl⟩
   ·have z:k<(a::b).length:=by rw[o];omega
    obtain⟨i,q,x,p,e1,-,e2⟩:=s.at1 z;obtain⟨t,f⟩:∃t,(a::b)[k]?=some t:=⟨_,g! z⟩
    rw[strs_get f]at p;cases p;have ai:=aBW ((a::b).take k) t;rw[<-take_snoc f]at ai;have ax:=al5 (a::b) (k+1);simp(disch:=omega)only[vvB,seval,abz,ak9,awy,awx,aww,awv,S,ad,Q,ae,e1,e2 g rfl];exact⟨m - 1,by omega,k+1,qK2 P,qK2 f1,qK2 ad,qK2 Q,qK1,by simp only[vvB,seval];rw[ai];congr 2;omega,by omega,rfl⟩
  ·rintro fr g ⟨P,f1,S,rfl⟩;have d0:Bd g.next.nat (g.new (O (N 141 true) [.cZ,.aQ])) g.next 0 141 [.cZ,.aQ] []:=
    ⟨j! _,by rw[bG];omega,dU _ _,.inl rfl,⟨.aQ,rfl,Ow.nil _ _ _ _,λj hj=>(by cases hj)⟩,azG⟩
   obtain⟨r3,h3,l3,e3,d3,c3,n3,-⟩:=aJn d0 rfl (G+fV (a::b)) (by omega);have ab:Ch (λj=>g.next.nat<=j.nat) g h3:=(Ch.new (λj=>g.next.nat<=j.nat) g _).trans c3 λ_ _ q=>q;obtain⟨r4,h4,l4,e4,d4,c4,-,n4⟩:=aki d3 a (by simp;omega);have ac:=ab.trans c4 λ_ _ q=>q;obtain⟨v',es,s',av,-⟩:=s.from ah (by omega) (lo:=1) (by simp);have s4:∀{u},Ch (λj=>g.next.nat<=j.nat) g u->Sl c u 1 v' b.length (b.map H):=λc=>by
    have:=s'.ch c hc λj hj=>by have:=s'.fF hj;omega
    simpa using this
   have L0:aG (X i0 q0) h3=D (H a) h3:=l0 h3 (ab.get i0 (by omega) (by omega));have M:∀h',bD 1 v (Y U 0) h'=D (X i0 q0) h':=e0;have ak:∀h',eP 1 v (some (Y U 1)) none none h'=D v' h':=es;have au:∀h',aZ 2 v' h'=D (Y U (b.length:Int)) h':=λh'=>(s4 ac).length;simp(disch:=omega)only[vvB,seval,ak8,ak7,ak6,ak5,P,f1,S,aI2,e3,M,L0,e4,ak,au];refine Oc.then (dW (n:=b.length) (λm fr u=>∃(k:Nat) (lb:List V),fr.get (c! 1)=some (H sep)/\fr.get (c! 8)=some (X g.next 0)/\fr.get (c! 63)=some v'/\fr.get (c! 64)=some (Y U (b.length:Int))/\fr.get (c! 65)=some (Y U (k:Int))/\
     k+m=b.length/\Bd g.next.nat u g.next 0 141 lb (a++iI sep (b.take k))/\Ch (λj=>g.next.nat<=j.nat) g u)
    (A:=λfr u=>fr.get (c! 8)=some (X g.next 0)/\∃lb,Bd g.next.nat u g.next 0 141 lb (dN sep (a::b))/\Ch (λj=>g.next.nat<=j.nat) g u) (B:=λ_ _=>False) (by rw[dP];omega) ?_ ?_) ?_ ?_
   ·exact⟨0,l4,qK2 f1,qK0,qK0,qK0,qK1,by omega,by simpa[iI]using d4,ac⟩
   ·rintro m fr u ⟨k,lb,f1,f8,af,W,ag,hk,db,L⟩;by_cases hz:m=0
    ·simp(disch:=omega)only[vvB,seval,aby,ak4,W,ag];have Z:k=b.length:=by omega
     rw[Z,i!,<-xX]at db;exact⟨rfl,qK2 f8,lb,db,L⟩
    ·have z:k<b.length:=by omega
     obtain⟨i,q,x,p,e1,-,e2⟩:=(s4 L).at1 z;obtain⟨t,f⟩:∃t,b[k]?=some t:=⟨_,g! z⟩
     rw[strs_get f]at p;cases p;have w:(a++iI sep (b.take (k+1))).length<=900000000:=by
      rw[h!,aeW];have h1:=al5 b (k+1);have h2:sep.length*(b.take (k+1)).length<=100*1000000:=t! hs (by rw[List.length_take];omega);omega
     rw[take_snoc f,Io]at w;obtain⟨r5,h5,l5,e5,d5,c5,-,-⟩:=aki db sep (by simp at w⊢;omega);obtain⟨r6,h6,l6,e6,d6,c6,-,-⟩:=aki d5 t (by simp at w⊢;omega);simp(disch:=omega)only[vvB,seval,aby,ak4,awu,awt,aws,awr,f1,f8,af,W,ag,e1,e2 u rfl,e5,e6];refine⟨m - 1,by omega,k+1,l6,qK2 f1,qK2 f8,qK2 af,qK2 W,qK1,by omega,?_,(L.trans c5 λ_ _ q=>q).trans c6 λ_ _ q=>q⟩;rw[take_snoc f,Io];simpa using d6
   ·rintro fr u ⟨f8,lb,db,L⟩;have hj:dN sep (a::b)≠ []:=by
     rcases E with E|E
     ·rw[o]at E;omega
     ·exact E
    have am:(dN sep (a::b)).length<=1000000000:=by
     have e3:=aeW sep b;rw[xX,h!,e3,<-I];omega
    have al:∀c∈dN sep (a::b),c<256:=by
     intro x p;rw[xX,q!]at p;rcases p with p|p
     ·exact hb a (by simp) x p
     ·unfold iI at p;obtain⟨y,hy,ar⟩:=List.mem_flatten.1 p;obtain⟨t,aq,rfl⟩:=List.mem_map.1 hy;rcases q!.1 ar with q|q
      ·exact ao x q
      ·exact hb t (by simp[aq]) x q
    obtain⟨h7,e7,c7,-⟩:=aDM db hj al am;simp(disch:=omega)only[vvB,seval,ak3,f8,e7];refine aX.ret (r:=H (dN sep (a::b))) (qT0) ⟨rfl,?_⟩;exact⟨by have:=L.next;have:=c7.next;omega,λj hj hn=>(c7.get j (by have:=L.next;omega) (by omega)).trans (L.get j hj (by omega))⟩
   ·intro fr g q;exact q.elim
  ·intro fr g q;exact q.elim
 by_cases ap:sep.length=0
 ·have:=aa ap;simp(disch:=omega)only[vvB,seval,aom,Zk,Zj,Zi,ahI,aqm,aql,sl,o,d];exact J _ (qK0) (qK0) (by simp only[vvB,seval];rw[this];rfl)
 ·simp(disch:=omega)only[vvB,seval,aom,Zk,Zj,Zi,ahI,aqm,aql,aBi,awz,sl,o,d,qu,mu];simp only[x!];exact J _ (qK0) (qK0) (qK0)
end Go.Proofs.Im
namespace Go.Vm
section
variable{h:Hp}
def afa(k:Int)(t:List Nat)(last bare:Bool):V:=.agg (.cons (Y U k) (.cons (H t) (.cons (K last) (.cons (K bare) (.cons (K false) .nil)))))
def av2(k:Int)(t:List Nat)(last bare:Bool):List V:= [Y U k,H t,K last,K bare,K false]
def aCi(k:Int)(s:List Nat):bK [Y U 0,H [],K false,K false,K false] [(0,1,Y U k),(1,1,H s)] h=D (afa k s false false) h:=(rfl)
def aCj:bK [Y U 0,H [],K false,K false,K false] [] h=D (afa 0 [] false false) h:=(rfl)
def apb(t:TypeId):eY t [Y U 0,H [],K false,K false,K false] h=D (X h.next 0) (h.new (O (N t true) [Y U 0,H [],K false,K false,K false])):=(rfl)
def aF8{i:Pos}{t:TypeId}{f:Bool}{x y z u v:V}{k:Int}{s:List Nat}{a b:Bool}(c:h.get i=some (O (N t f) [x,y,z,u,v])):aV 5 (X i 0) (afa k s a b) h=D V.undef (h.put i (some (O (N t f) (av2 k s a b)))):=by
 rw[CV c rfl rfl];rfl
def aGz{i:Pos}{wr:Wr}{k:Int}{s:List Nat}{a b:Bool}(c:h.get i=some (O wr (av2 k s a b))):cO 5 (X i 0) h=D (afa k s a b) h:=by
 show dR h i (λ_ cs=>match gJ 5 (fG 0 cs) with|some l=>R.ok (V.agg (V.ofList l)) h|none=>.bad)=_;rw[dM (wr:=wr) (all:=av2 k s a b) (by rw[c];rfl)];rfl
def ahs(h:Hp)(o o':Ob):Ch (λ_=>False) h ((h.new o).put h.next (some o')):=
 (Ch.new (λ_=>False) h o).trans (Ch.put (S:=λj=>j=h.next) _ _ rfl) λj hj q=>by rw[q]at hj;omega
end
end Go.Vm
namespace Go.Ln
def Wds.apx:∀{ws:Wds} {k:Nat},k<ws.len->∃w,ws.get? k=some w
 | .nil,_,h=>absurd h (by simp[Wds.len])
 | .cons k t ks _,0,_=>⟨_,rfl⟩
 | .cons _ _ _ r,n+1,h=>by simp only[Wds.len]at h;exact Wds.apx (ws:=r) (k:=n) (by omega)
def Wds.drop:Wds->Nat->Wds
 |w,0=>w
 | .nil,_+1=>.nil
 | .cons _ _ _ r,n+1=>r.drop n
def Wds.len_drop:∀{ws:Wds} {k:Nat},(ws.drop k).len=ws.len - k
 | .nil,0=>rfl
 | .nil,k+1=>by simp[Wds.drop,Wds.len]
 | .cons _ _ _ _,0=>rfl
 | .cons _ _ _ r,k+1=>by simp only[Wds.drop,Wds.len];rw[Wds.len_drop (ws:=r)];omega
def Wds.ae3:∀{ws:Wds} {k m:Nat},(ws.drop k).get? m=ws.get? (k+m)
 | .nil,0,m=>by simp[Wds.drop]
 | .nil,k+1,m=>by simp[Wds.drop,Wds.get?]
 | .cons _ _ _ _,0,m=>by simp[Wds.drop]
 | .cons _ _ _ r,k+1,m=>by rw[show k+1+m=(k+m)+1 by omega];simp only[Wds.drop,Wds.get?];exact Wds.ae3
def WAt.drop{P:Pos->Prop}{h:Hp}:∀{ws:Wds} {cs:List V} {k:Nat},WAt P h ws cs->WAt P h (ws.drop k) (cs.drop (k*3))
 | .nil,_,0,w=>w
 | .nil,cs,k+1,w=>by rw[show cs= [] from w];simp[Wds.drop,WAt]
 | .cons _ _ _ _,_,0,w=>by simpa[Wds.drop]using w
 | .cons _ _ _ r,_,k+1,⟨vk,c,d,e,o,p,a,b⟩=>by
  rw[e,show(k+1)*3=3+k*3 by omega,<-List.drop_drop];exact WAt.drop (ws:=r) b
def WS(P:Pos->Prop)(h:Hp)(v:V)(ws:Wds):Prop:=∃cs,Sl h.next.nat h 3 v ws.len cs/\zO 3 v/\(∀j,bV v=some j->P j)/\WAt P h ws cs
def Xr.ws{P:Pos->Prop}{h:Hp}{v:V}{ws:Wds}(t:Xr P h v ws):WS P h v ws:=by
 obtain⟨cs,o,p,a⟩:=t;refine⟨cs,o.sl,?_,p,a⟩;intro i q n c e;rcases o.is with⟨_,b⟩|⟨_,b,_⟩
 ·rw[b]at e;cases e
 ·rw[b]at e;cases e;rfl
def WS.ch{P P' S:Pos->Prop}{h h':Hp}{v:V}{ws:Wds}(t:WS P h v ws)(c:Ch S h h')(b:∀j:Pos,j.nat<h.next.nat->P j->P' j/\¬S j):WS P' h' v ws:=by
 obtain⟨cs,o,k,p,a⟩:=t;exact⟨cs,(o.ch c (j! _) λj hj=>(b j (o.fF hj) (p j hj)).2).le c.next,k,λj hj=>(b j (o.fF hj) (p j hj)).1,a.ch c b⟩
def WS.len{P:Pos->Prop}{h:Hp}{v:V}{ws:Wds}(t:WS P h v ws)(h':Hp):aZ 2 v h'=D (Y U (ws.len:Int)) h':=by
 obtain⟨cs,o,-⟩:=t;exact o.length
def WS.cell{P:Pos->Prop}{h:Hp}{v:V}{ws:Wds}(t:WS P h v ws):v.cells= [v]/\iq v=true:=by
 obtain⟨cs,o,-⟩:=t;exact o.cell
def WS.from{P:Pos->Prop}{h:Hp}{v:V}{ws:Wds}(t:WS P h v ws){k:Nat}(hk:k<=ws.len):∃v',(∀h',eP 3 v (some (Y U (k:Int))) none none h'=D v' h')/\WS P h v' (ws.drop k):=by
 obtain⟨cs,o,c,p,a⟩:=t;obtain⟨v',e,s,b,i⟩:=o.from c (by omega) hk;exact⟨v',e,cs.drop (k*3),by rw[Wds.len_drop];exact s,b,λj hj=>p j (i j hj),a.drop⟩
def SK(w:Wds)(k:Nat):Bool:=match w.get? k with|some x=>decide (x.kind=1)|none=>false
end Go.Ln
namespace Go.Proofs.Im
def apD(x:V)(h:Hp):Di d! tA x h=cO 5 x h:=kR
def WS.at{P:Pos->Prop}{h:Hp}{v:V}{ws:Wds}(t:WS P h v ws){k:Nat}{w:Wd}(e:ws.get? k=some w):
  ∃j q vk,(∀h',bD 3 v (Y U (k:Int)) h'=D (X j q) h')/\aG (X j q) h=D (Y U w.kind) h/\aG (X j (q+1)) h=D (H w.text) h/\aG (X j (q+2)) h=D vk h/\Xr P h vk w.kids:=by
 obtain⟨cs,o,-,i,x⟩:=t;have hk:=Wds.C9 e;obtain⟨j,q,e1,-,e2⟩:=o.at hk;obtain⟨a,b,vk,c,d⟩:=WAt.get x e;exact⟨j,q,vk,e1,e2 h rfl 0 _ (by omega) a,e2 h rfl 1 _ (by omega) b,e2 h rfl 2 _ (by omega) c,d⟩
def aDS{b c:Nat}{h:Hp}{i:Pos}{t:TypeId}{L:List V}{s:List Nat}{v:V}{l:List (List Nat)}(d:Bd b h i 5 t L s)(sl:Sl c h 1 v l.length (l.map H))(e:zO 1 v)(y:c<=h.next.nat)
  (hn:l.length<=1000000) (ht:fV l<=100000000) (hb:∀t∈l,∀c∈t,c<256) (hj:l.length<=1\/dN [32] l≠ []) (M:s.length+(dN [32] l).length+2<=1000000000):
  ∃r h' f,wu [X i 0,v] h=D r h'/\Bd b h' i 5 t f (s++(dN [32] l++ [13,10]))/\Stp (OfB i 5 L) h (OfB i 5 f) h'/\(∀k,k≠5->k≠6->f[k]?=L[k]?)/\f.length=L.length:=by
 obtain⟨r1,I,e1,rfl,g⟩:=akE sl e y hn (by simp) ht hb (by simp) hj;have o:=d.ch g λ_ _ _ q=>q;obtain⟨r2,J,G,e2,p,m,z,C⟩:=TS o (dN [32] l) (by omega);obtain⟨P,x,j,w,u,n,B,E⟩:=TS p [13,10] (by simp;omega);rw[aH2];simp(disch:=omega)only[vvB,seval,aIv,aBw,aBv,e1,e2,w];refine⟨_,x,j,rfl,by rw[<-List.append_assoc];exact u,(((Stp.refl (OfB i 5 L) h).step g λ_ q=>q.elim).trans m).trans n,λk a b=>(B k a b).trans (z k a b),E.trans C⟩
def aFX(h:Hp):∃h',atJ [] h=D (afa 2 [119,111,114,100,115] false false) h'/\Ch (λ_=>False) h h':=by
 rw[aH3];simp(disch:=omega)only[vvB,seval,aDe,aBy,aBx,apb,aCi,aF8 (dU _ _)];exact⟨_,by simp only[bU,bT,vvB,seval,apD,aGz (jZ _ _ _),bW];rfl,ahs _ _ _⟩
def aeY{P:Pos->Prop}{h:Hp}{v:V}{w:Wds}(t:WS P h v w)(k:Nat):EU [v,Y U (k:Int)] h=D (K (SK w k)) h:=by
 rw[aFM];by_cases hk:k<w.len
 ·obtain⟨x,a⟩:=Wds.apx hk;obtain⟨j,q,vk,e1,e2,b,c,d⟩:=WS.at t a;simp(disch:=omega)only[vvB,seval,axe,afk,alo,WS.len t,e1,e2,l!];simp only[bU,bT,vvB,seval,bW];unfold SK;rw[a]
 ·simp(disch:=omega)only[vvB,seval,axe,afk,alo,WS.len t];simp only[bU,bT,vvB,seval,bW];unfold SK;cases a:w.get? k with
  |none=>rfl
  |some x=>exact absurd (Wds.C9 a) hk
end Go.Proofs.Im
namespace Go.Vm
section
variable{h:Hp}
def qI(t:TypeId)(a:List Nat):bP t [H []] 1 [(0,1,H a)] h=D (.slice h.next 0 1 (.kn 1)) (h.new (O (N t true) [H a])):=(rfl)
def apf(t:TypeId)(a b:List Nat):bP t [H [],H []] 2 [(0,1,H a),(1,1,H b)] h=D (.slice h.next 0 2 (.kn 2)) (h.new (O (N t true) [H a,H b])):=(rfl)
def ape(t:TypeId)(a b c d:List Nat):bP t [H [],H [],H [],H []] 4 [(0,1,H a),(1,1,H b),(2,1,H c),(3,1,H d)] h=D (.slice h.next 0 4 (.kn 4)) (h.new (O (N t true) [H a,H b,H c,H d])):=(rfl)
def Sl.aId{el:TypeId}{h:Hp}(l:List V){n:Nat}(hn:l.length=n):Sl (h.next.nat+1) (h.new (O (N el true) l)) 1 (.slice h.next 0 n (.kn n)) n l:=⟨by omega,.inr ⟨h.next,0,_,N el true,l,rfl,by omega,by rw[dU];rfl,λk _=>by rw[u!]⟩⟩
def amG{i:Pos}{n:Nat}:zO 1 (.slice i 0 n (.kn n)):=λ_ _ _ _ e=>by cases e;exact j! _
end
end Go.Vm
namespace Go.Proofs.Im
def aC4(n:Nat)(v:V):V:=if n=0 then v else afa 2 [119,111,114,100,115] false false
def azj{b:Nat}{h:Hp}{i:Pos}{t el:TypeId}{L:List V}{s:List Nat}(d:Bd b h i 5 t L s)(l:List (List Nat)){n:Nat}(hn:l.length=n)(hl:n<=100)
  (ht:fV l<=100000000) (hb:∀t∈l,∀c∈t,c<256) (hj:n<=1\/dN [32] l≠ []) (m:s.length+(dN [32] l).length+2<=1000000000):
  ∃r h' a,wu [X i 0,.slice h.next 0 n (.kn n)] (h.new (O (N el true) (l.map H)))=D r h'/\Bd b h' i 5 t a (s++(dN [32] l++ [13,10]))/\Stp (OfB i 5 L) h (OfB i 5 a) h'/\(∀k,k≠5->k≠6->a[k]?=L[k]?)/\a.length=L.length:=by
 subst hn;have f:Ch (λ_=>False) h (h.new (O (N el true) (l.map H))):=Ch.new _ _ _;obtain⟨r,h',a,e,j,g,o,p⟩:=aDS (d.ch f λ_ _ _ q=>q) (Sl.aId (el:=el) (h:=h) (l.map H) (by simp)) amG (by rw[bG];omega) (by omega) ht hb hj m;exact⟨r,h',a,e,j,((Stp.refl (OfB i 5 L) h).step f λ_ q=>q.elim).trans g,o,p⟩
def atr(n:Nat)(t:List Nat):List Nat:=if n=0 then t++ [13,10] else []
def aEy{P:Pos->Prop}{b:Nat}{h:Hp}{i:Pos}{t:TypeId}{L:List V}{s:List Nat}{c vw:V}{w:Wds}(d:Bd b h i 5 t L s)(M:L[3]?=some vw)(G:WS P h vw w)(hs:s.length<=100000000):
  ∃r h' a,aDB [c,X i 0] h=D r h'/\r=aC4 w.len (afa 0 [] false false)/\Bd b h' i 5 t a (s++atr w.len [42,32,67,65,80,65,66,73,76,73,84,89,32,73,77,65,80,52,114,101,118,49,32,76,73,84,69,82,65,76,43,32,85,73,68,80,76,85,83,32,77,79,86,69,32,67,79,78,68,83,84,79,82,69])/\Stp (OfB i 5 L) h (OfB i 5 a) h'/\(∀k,k≠5->k≠6->a[k]?=L[k]?)/\a.length=L.length:=by
 obtain⟨m,f⟩:∃m,m=h.new (O (N tA true) [Y U 0,H [],K false,K false,K false]):=⟨_,rfl⟩
 have C:Ch (λ_=>False) h m:=by rw[f];exact Ch.new _ _ _
 have E:m.get h.next=some (O (N tA true) [Y U 0,H [],K false,K false,K false]):=by rw[f];exact dU _ _
 have n1:m.next.nat=h.next.nat+1:=by rw[f,bG]
 have v:=d.ch C λ_ _ _ q=>q;have B:aG (X i 3) m=D vw m:=by rw[D8 v.get];simp only[M]
 have no:∀{l:List V},OfB i 5 L h.next->False:=λo=>by have:=(o.from d _).2;omega
 have fin:∀{p:Hp} {l:List V},Stp (OfB i 5 L) h (OfB i 5 l) p->∀o,Stp (OfB i 5 L) h (OfB i 5 l) (p.put h.next o):=λg o=>⟨g.ch.trans (Ch.put (S:=λj=>j=h.next) _ _ rfl) λj hj q=>by rw[q]at hj;omega,g.sub⟩
 have u:Stp (OfB i 5 L) h (OfB i 5 L) m:=(Stp.refl _ _).step C λ_ q=>q.elim;rw[aH6]
 suffices Q:aX d! [.cell 4 tA] (λr h'=>∃a,r=aC4 w.len (afa 0 [] false false)/\Bd b h' i 5 t a (s++atr w.len [42,32,67,65,80,65,66,73,76,73,84,89,32,73,77,65,80,52,114,101,118,49,32,76,73,84,69,82,65,76,43,32,85,73,68,80,76,85,83,32,77,79,86,69,32,67,79,78,68,83,84,79,82,69])/\Stp (OfB i 5 L) h (OfB i 5 a) h'/\(∀k,k≠5->k≠6->a[k]?=L[k]?)/\a.length=L.length) (aon (T.set (some (X i 0)) (c! 1) T.nil) h) by
  obtain⟨r,h',e,a,q⟩:=Q;exact⟨r,h',a,e,q⟩
 by_cases z:w.len=0
 ·obtain⟨r2,p,I,e2,J,g,W,Z⟩:=azj (el:=9) v [[42,32,67,65,80,65,66,73,76,73,84,89,32,73,77,65,80,52,114,101,118,49,32,76,73,84,69,82,65,76,43,32,85,73,68,80,76,85,83,32,77,79,86,69,32,67,79,78,68,83,84,79,82,69]] (n:=1) rfl (by omega) (by simp[fV]) (by simp) (.inl (j! _)) (by simp[dN];omega);have y:=(g.ch.get h.next (by omega) λo=>no (l:=L) o).trans E;simp only[List.map_cons,List.map_nil]at e2;simp(disch:=omega)only[vvB,seval,aon,aqu,aqt,aBH,aBG,apb,<-f,B,WS.len G,z,qI,e2,aCj,aF8 y];refine aX.ret (by simp only[bT,vvB,seval,apD,aGz (jZ _ _ _),bW];rfl) ⟨I,?_,?_,fin (u.trans g) _,W,Z⟩
  ·unfold aC4;rw[if_pos rfl]
  ·have x:=J.chO (Ch.put (S:=λj=>j=h.next) p (some (O (N tA true) (av2 0 [] false false))) rfl) λj o e=>by
    subst e;rcases g.sub _ o with o|o
    ·exact no (l:=L) o
    ·omega
   unfold atr;rw[if_pos rfl];simpa[dN]using x
 ·obtain⟨p,e2,g⟩:=aFX m;have y:=(g.get h.next (by omega) λq=>q).trans E;simp(disch:=omega)only[vvB,seval,aon,aqu,aqt,aBI,apb,<-f,B,WS.len G,e2,aF8 y];refine aX.ret (by simp only[bT,vvB,seval,apD,aGz (jZ _ _ _),bW];rfl) ⟨L,?_,?_,fin (u.step g λ_ q=>q.elim) _,λ_ _ _=>rfl,rfl⟩
  ·unfold aC4;rw[if_neg z]
  ·have x:=(v.ch g λ_ _ _ q=>q).chO (Ch.put (S:=λj=>j=h.next) p (some (O (N tA true) (av2 2 [119,111,114,100,115] false false))) rfl) λj o e=>by
    subst e;exact no (l:=L) o
   unfold atr;rw[if_neg z];simpa using x
end Go.Proofs.Im
