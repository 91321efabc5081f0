/- Lemmas. No conditions. -/
import Derived.Test.YtpgppmioigacoaaGreatDoorFAH
import Derived.Test.YtpgppmioigacoaaGreatDoorProg
import Derived.KernelRfl
set_option linter.all false
set_option maxHeartbeats 4000000
set_option maxRecDepth 100000
open List renaming getElem?_eq_getElem→a!,length_map→c!,getElem?_map→d!,getElem?_eq_some_iff→g!,mem_of_getElem?→i!,getElem?_append_right→j!,getElem?_append_left→l!,getElem?_set_ne→p!,length_set→q!,mem_cons→r!
open Bool renaming and_eq_true→b!
open Nat renaming lt_or_ge→e!,beq→h!,blt_eq→k!,add_sub_cancel_left→n!,blt→o!
noncomputable section
open Go Go.Vm Go.Proofs
namespace Go.Vm
section
variable{P:Program}{G:Nat}
def aJ2:List Pos->Pos->List Pos
 | [],p=> [p]
 |q::l,p=>q::aJ2 l p
def afL:List Pos->Nat
 | []=>0
 |_::l=>(afL l).succ
def aIP(G:Nat)(i j:Pos)(L:List Pos):List Pos:=match h! i.nat (G+afL L) with|true=>aJ2 L j|false=>L
def aH4(G:Nat)(p:V):V->List Pos->List Pos:=
 V.rec (motive:=λ_=>V->List Pos->List Pos) (λ_ _ L=>L) (λ_ _ _ L=>L) (λ_ _ L=>L)
  (λi _ v L=>match v with| .ptr j _=>aIP G i j L|_=>L) (λ_ L=>L)
  (λi _ _ _ v L=>match v with| .slice j _ _ _=>aIP G i j L|_=>L) (λ_ L=>L) (λ_ L=>L)
  (λi v L=>match v with| .map j=>aIP G i j L|_=>L) (λ_ L=>L)
  (λ_ _ _ a b v L=>match v with| .func _ c d=>b d (a c L)|_=>L) (λ_ L=>L)
  (λ_ _ e v L=>match v with| .iface _ u=>e u L|_=>L) (λ_ L=>L)
  (λ_ e v L=>match v with| .agg u=>e u L|_=>L) (λ_ e v L=>match v with| .tuple u=>e u L|_=>L) (λ_ L=>L)
  (λ_ _ a b v L=>match v with| .cons c d=>b d (a c L)|_=>L) p
def XD(G:Nat):List V->List V->List Pos->List Pos
 | [],_,L=>L
 |p::ps,vs,L=>(match vs with| []=>L|v::vs=>XD G ps vs (aH4 G p v L))
def aQC(G:Nat):List (V×V)->List (V×V)->List Pos->List Pos
 | [],_,L=>L
 |p::ps,vs,L=>(match vs with| []=>L|v::vs=>aQC G ps vs (aH4 G p.2 v.2 (aH4 G p.1 v.1 L)))
def avP(G:Nat)(o q:Ob)(L:List Pos):List Pos:=match o with
 | .cells _ l=>(match q with| .cells _ k=>XD G l k L|_=>L)
 | .map l=>(match q with| .map k=>aQC G l k L|_=>L)
 |_=>L
def aa0(G:Nat)(h:Hp):List Ob->Nat->List Pos->Option (List Pos)
 | [],_,L=>some L
 |o::ks,n,L=>(match o! n (afL L) with
  |true=>(match h.get (MI n L) with
   |some q=>(match avP G o q L with|a=>(match QD q (o.ren (tau G a)) with|true=>aa0 G h ks n.succ a|false=>none))
   |none=>none)
  |false=>none)
def Ur(t:Pos->Pos):List V->List V
 | []=> []
 |v::l=>v.ren t::Ur t l
def aAe(t:Pos->Pos):∀l:List V,Ur t l=l.map (V.ren t)
 | []=>rfl
 |v::l=>by rw[Ur,aAe t l];rfl
def avO(p:Pos):List Pos->Bool
 | []=>false
 |q::l=>(match p.eq q with|true=>true|false=>avO p l)
def anl{p:Pos}:∀{l:List Pos},avO p l=false->p∉l
 | [],_,h=>by cases h
 |q::l,e,h=>by
  unfold avO at e;split at e
  ·cases e
  ·rename_i a;rcases r!.1 h with rfl|h
   ·rw[Pos.eq_iff.2 rfl]at a;cases a
   ·exact anl e h
def Y6:List Pos->Bool
 | []=>true
 |p::l=>(match avO p l with|true=>false|false=>Y6 l)
def ar1:∀{l:List Pos},Y6 l=true->l.Nodup
 | [],_=>List.nodup_nil
 |p::l,h=>by
  unfold Y6 at h;split at h
  ·cases h
  ·rename_i a;exact List.nodup_cons.2 ⟨anl a,ar1 h⟩
def afF{l:List Pos}(h:l.Nodup){i j:Nat}{p:Pos}(hi:l[i]?=some p)(hj:l[j]?=some p):i=j:=by
 have h:=List.pairwise_iff_getElem.1 (List.nodup_iff_pairwise_ne.1 h);obtain⟨a,c⟩:=g!.1 hi;obtain⟨b,hb⟩:=g!.1 hj;rcases Nat.lt_trichotomy i j with q|q|q
 ·exact absurd (c.trans hb.symm) (h i j a b q)
 ·exact q
 ·exact absurd (hb.trans c.symm) (h j i b a q)
def YW(a b:Nat):List Pos->Bool
 | []=>true
 |p::l=>(Nat.ble a p.nat&&o! p.nat b)&&YW a b l
def arW{a b:Nat}:∀{l:List Pos},YW a b l=true->∀p∈l,a<=p.nat/\p.nat<b
 | [],_,p,h=>by cases h
 |q::l,e,p,h=>by
  simp only[YW,b!]at e;rcases r!.1 h with rfl|h
  ·exact⟨Nat.le_of_ble_eq_true e.1.1,by simpa[k!]using e.1.2⟩
  ·exact arW e.2 p h
def ap6(t:Pos->Pos)(h:Hp):List Pos->List Ob->Bool
 | [],ks=>(match ks with| []=>true|_::_=>false)
 |p::l,ks=>(match ks with| []=>false|o::ks=>(match h.get p with|some q=>QD q (o.ren t)|none=>false)&&ap6 t h l ks)
def aAj{t:Pos->Pos}{h:Hp}:∀{l:List Pos} {ks:List Ob},ap6 t h l ks=true->l.length=ks.length/\∀(k:Nat) (p:Pos) (o:Ob),l[k]?=some p->ks[k]?=some o->h.get p=some (o.ren t)
 | [],[],_=>⟨rfl,λk p o h=>by simp at h⟩
 | [],_::_,h=>by cases h
 |_::_,[],h=>by cases h
 |p::l,o::ks,e=>by
  simp only[ap6,b!]at e;obtain⟨a,b⟩:=aAj e.2;refine⟨by simp[a],λk q x c d=>?_⟩;cases k with
  |zero=>
   simp at c d;subst c;subst d;have e1:=e.1;split at e1
   ·rename_i y f;rw[f,aqw e1]
   ·cases e1
  |succ k=>simp at c d;exact b k q x c d
def okC(G:Nat)(a0:List V)(ks:List Ob)(args:List V)(h:Hp)(L:List Pos):Bool:=
 (eqL args (Ur (tau G L) a0)&&YW G h.next.nat L)&&(Y6 L&&ap6 (tau G L) h L ks)
def XE(G:Nat)(a0:List V)(ks:List Ob)(args:List V)(h:Hp):Option (List Pos):=match XD G a0 args [] with
 |a=>(match eqL args (Ur (tau G a) a0) with
  |true=>(match aa0 G h ks 0 a with
   |some L=>(match okC G a0 ks args h L with|true=>some L|false=>none)
   |none=>none)
  |false=>none)
def aK7{a0:List V}{ks:List Ob}{args:List V}{h:Hp}{L:List Pos}(e:XE G a0 ks args h=some L):okC G a0 ks args h L=true:=by
 unfold XE at e;dsimp only at e;split at e
 ·split at e
  ·split at e
   ·rename_i a;cases e;exact a
   ·cases e
  ·cases e
 ·cases e
def succs:Pos->List Ob->List Pos
 |_,[]=> []
 |p,_::l=>p::succs p.succ l
def afj:∀{l:List Ob} {p:Pos} {k:Nat},k<l.length->(succs p l)[k]?=some (Pos.of (p.nat+k))
 | [],_,_,h=>by cases h
 |_::l,p,0,_=>by simp only[succs,List.getElem?_cons_zero,Nat.add_zero,Pos.OE]
 |_::l,p,k+1,h=>by
  simp only[succs,List.getElem?_cons_succ];rw[afj (by simpa using h),Pos.fD];congr 2;omega
def awH:List Pos->List Pos->List Pos
 | [],m=>m
 |p::l,m=>p::awH l m
def aqF:∀l m:List Pos,awH l m=l++m
 | [],_=>rfl
 |p::l,m=>by rw[awH,aqF l m];rfl
def patch:List (Option Ob)->List (Nat×Option Ob)->List (Option Ob)
 |os,[]=>os
 |os,c::cs=>patch (os.set c.1 c.2) cs
def aH6(t:Pos->Pos)(o:Option Ob):Option Ob:=match o with|some x=>some (x.ren t)|none=>none
def aKU(t:Pos->Pos)(o:Option Ob):aH6 t o=o.map (Ob.ren t):=by cases o<;>rfl
def aaM(t:Pos->Pos)(L:List Pos):Hp->List (Nat×Option Ob)->Hp
 |h,[]=>h
 |h,c::cs=>aaM t L (h.put (MI c.1 L) (aH6 t c.2)) cs
def aCX(t:Pos->Pos):List Ob->List Ob
 | []=> []
 |o::l=>o.ren t::aCX t l
def apX(t:Pos->Pos):∀l:List Ob,aCX t l=l.map (Ob.ren t)
 | []=>rfl
 |v::l=>by rw[aCX,apX t l];rfl
def Tm(G:Nat)(cs:List (Nat×Option Ob))(news:List Ob)(rc:V)(L:List Pos)(h:Hp):R V:=match tau G (awH L (succs h.next news)) with
 |t=>.ok (rc.ren t) (mkF (aaM t L h cs) (aCX t news))
def als(G:Nat)(a0:List V)(ks:List Ob)(cs:List (Nat×Option Ob))(news:List Ob)(rc:V)(F:Fun):Fun:=λargs h=>match XE G a0 ks args h with
 |some L=>Tm G cs news rc L h
 |none=>F args h
def aqj(n:Nat):List Ob->Bool
 | []=>true
 |o::l=>o.ins n&&aqj n l
def UH{n:Nat}:∀{l:List Ob} {k:Nat} {o:Ob},aqj n l=true->l[k]?=some o->o.ins n=true
 | [],k,o,_,h=>by simp at h
 |x::l,0,o,h,e=>by
  simp only[aqj,b!]at h;simp at e;subst e;exact h.1
 |x::l,k+1,o,h,e=>by
  simp only[aqj,b!]at h;exact UH h.2 (by simpa using e)
def aqk(n m:Nat):List (Nat×Option Ob)->Bool
 | []=>true
 |c::cs=>(o! c.1 n&&(match c.2 with|some o=>o.ins m|none=>true))&&aqk n m cs
def aud(G n:Nat)(a0:List V)(ks:List Ob)(cs:List (Nat×Option Ob))(news:List Ob)(rc:V):Bool:=
 (h! ks.length n&&(insL (G+n) a0&&aqj (G+n) ks))&&(aqk n (G+n+news.length) cs&&(aqj (G+n+news.length) news&&rc.ins (G+n+news.length)))
def OD:∀{cs:List (Nat×Option Ob)} {os:List (Option Ob)},(patch os cs).length=os.length
 | [],_=>rfl
 |c::cs,os=>by rw[patch,OD,q!]
def Gj(t:Pos->Pos)(L:List Pos):∀(cs:List (Nat×Option Ob)) (h:Hp),(aaM t L h cs).next=h.next
 | [],_=>rfl
 |c::cs,h=>by rw[aaM,Gj t L cs];rfl
def au6{t:Pos->Pos}{L:List Pos}{n m:Nat}(hn:L.length=n)(hd:L.Nodup):∀{cs:List (Nat×Option Ob)} {h:Hp} {os:List (Option Ob)},os.length=n->aqk n m cs=true->(∀(k:Nat) (p:Pos),L[k]?=some p->h.get p=((os[k]?).join).map (Ob.ren t))->
  (∀(k:Nat) (p:Pos),L[k]?=some p->(aaM t L h cs).get p=(((patch os cs)[k]?).join).map (Ob.ren t))/\∀j,j∉L->(aaM t L h cs).get j=h.get j
 | [],h,os,_,_,g=>⟨g,λ_ _=>rfl⟩
 |c::cs,h,os,o,hi,g=>by
  simp only[aqk,b!]at hi;have r:c.1<n:=by simpa[k!]using hi.1.1
  have d:c.1<L.length:=by omega
  have l:MI c.1 L=L[c.1]:=by rw[aqc,a! d];rfl
  obtain⟨a,b⟩:=au6 (t:=t) (m:=m) hn hd (cs:=cs) (h:=h.put (MI c.1 L) (aH6 t c.2)) (os:=os.set c.1 c.2) (by rw[q!];exact o) hi.2 (λk p f=>by
   by_cases e:k=c.1
   ·subst e;have:p=L[c.1]:=by rw[a! d]at f;exact(Option.some.inj f).symm
    rw[l,this,h.dU,List.getElem?_set_self (by omega),aKU];rfl
   ·have i:p≠L[c.1]:=λq=>by
     exact e (afF hd f (by rw[q];exact a! d))
    rw[l,h.dA i,p! (Ne.symm e)];exact g k p f)
  refine⟨a,λj hj=>?_⟩;rw[aaM,b j hj,l,h.dA λq=>hj (by rw[q];exact List.getElem_mem d)]
def aAA{f:FuncId}{F:Fun}{n:Nat}{a0:List V}{ks:List Ob}{cs:List (Nat×Option Ob)}{news:List Ob}{rc:V}(hF:aG P G f F)(hs:aud G n a0 ks cs news rc=true)
  (hD:Does P G f a0 (mkO G (ks.map some)) rc (mkO G (patch (ks.map some) cs++news.map some))):aG P G f (als G a0 ks cs news rc F):=by
 intro args h r h' M w cargs e Z ha;unfold als at e;split at e
 ·rename_i L hL;have d:=aK7 hL;unfold okC at d;simp only[b!]at d;obtain⟨⟨k1,k2⟩,k3,k4⟩:=d;have k1:=afR k1;rw[aAe]at k1;have k2:=arW k2;have k3:=ar1 k3;obtain⟨k4,k5⟩:=aAj k4;unfold aud at hs;simp only[b!]at hs;obtain⟨⟨W,s2,s3⟩,s4,s5,s6⟩:=hs;have W:=Nat.eq_of_beq_eq_true W;have aa:L.length=n:=by omega
  have u:(mkO G (ks.map some)).next.nat=G+n:=by rw[UD,c!,W]
  have Q:(mkO G (patch (ks.map some) cs++news.map some)).next.nat=G+n+news.length:=by rw[UD,List.length_append,OD,c!,c!,W];omega
  have B:∀i:Pos,G<=i.nat->i.nat<G+n->∃p,L[i.nat - G]?=some p/\tau G L i=p:=λi h1 h2=>by
   have:i.nat - G<L.length:=by omega
   exact⟨_,a! this,YP h1 (a! this)⟩
  have ac:∀g,g<G->g<h.next.nat:=λg hg=>by
   rcases e! g h.next.nat with q|q
   ·exact q
   ·obtain⟨n,hn⟩:=Z.gl g hg;rw[Z.fresh (Pos.of g) (by rw[Pos.gG];exact q)]at hn;cases hn
  have S:Sub G (tau G L) (mkO G (ks.map some)) h:=by
   refine⟨λi j hi hj e=>?_,λi hi=>?_,λi o hi=>?_,λg hg=>⟨by omega,pV (by rw[Pos.gG];exact hg)⟩⟩
   ·rw[u]at hi hj;rcases e! i.nat G with x|x<;>rcases e! j.nat G with y|y
    ·rw[pV x,pV y]at e;exact e
    ·obtain⟨q,I,e2⟩:=B j y hj;rw[pV x,e2]at e;have:=(k2 q (i! I)).1;rw[<-e]at this;omega
    ·obtain⟨q,I,e2⟩:=B i x hi;rw[pV y,e2]at e;have:=(k2 q (i! I)).1;rw[e]at this;omega
    ·obtain⟨q,I,e2⟩:=B i x hi;obtain⟨r,Z,e3⟩:=B j y hj;rw[e2,e3]at e;subst e;have:=afF k3 I Z;exact Pos.yR (by omega)
   ·rw[u]at hi;rcases e! i.nat G with x|x
    ·rw[pV x];exact ac _ x
    ·obtain⟨q,I,e2⟩:=B i x hi;rw[e2];exact(k2 q (i! I)).2
   ·rw[MJ]at hi;split at hi
    ·rename_i hG;have d:ks[i.nat - G]?=some o:=by
      rw[d!]at hi;cases h:ks[i.nat - G]? with
      |none=>rw[h]at hi;cases hi
      |some y=>rw[h]at hi;exact hi
     have H:i.nat - G<ks.length:=(g!.1 d).1;obtain⟨q,I,e2⟩:=B i hG (by omega);exact⟨by omega,by rw[u];exact UH s3 d,by rw[e2];exact k5 _ _ _ I d⟩
    ·cases hi
  unfold Tm at e;simp only[]at e;rw[aqF,apX]at e;obtain⟨t,ht⟩:∃t,t=tau G (L++succs h.next news):=⟨_,rfl⟩
  rw[<-ht]at e;cases e;have J:∀i:Pos,i.nat<G+n+news.length->sig (tau G L) (mkO G (ks.map some)).next.nat h.next.nat i=t i:=λi hi=>by
   rw[ht,u];rcases e! i.nat (G+n) with x|x
   ·rw[afq x];rcases e! i.nat G with y|y
    ·rw[pV y,pV y]
    ·obtain⟨q,I,e2⟩:=B i y x;rw[e2,YP y (by rw[l! (by omega)];exact I)]
   ·rw[am0 x];have:(L++succs h.next news)[i.nat - G]?=some (Pos.of (h.next.nat+(i.nat - G - n))):=by
     rw[j! (by omega),aa];exact afj (by omega)
    rw[YP (by omega) this];congr 1;omega
  have ab:∀i:Pos,i.nat<G+n->tau G L i=t i:=λi hi=>by rw[<-J i (by omega),afq (by rw[u];exact hi)]
  have c1:rc.ren t=rc.ren (sig (tau G L) (mkO G (ks.map some)).next.nat h.next.nat):=V.sJ (n:=G+n+news.length) (λi hi=>(J i hi).symm) s6;have U:=au6 (t:=t) (L:=L) (n:=n) (m:=G+n+news.length) aa k3 (cs:=cs) (h:=h) (os:=ks.map some) (by rw[c!];exact W) s4 (λk p d=>by
   have H:k<ks.length:=by have:=(g!.1 d).1;omega
   have K:ks[k]?=some ks[k]:=a! H;rw[k5 k p _ d K,d!,K];show _=some _;rw[Ob.sJ (n:=G+n) ab (UH s3 K)])
  have C:∀(cs:List (Nat×Option Ob)) (os:List (Option Ob)),aqk n (G+n+news.length) cs=true->(∀(k:Nat) (o:Ob),os[k]?=some (some o)->o.ins (G+n+news.length)=true)->∀(k:Nat) (o:Ob),(patch os cs)[k]?=some (some o)->o.ins (G+n+news.length)=true:=by
   intro cs;induction cs with
   |nil=>intro os _ h;exact h
   |cons c cs N=>
    intro os hi ah;simp only[aqk,b!]at hi;refine N (os.set c.1 c.2) hi.2 λk o d=>?_;by_cases e:c.1=k
    ·rw[List.getElem?_set]at d;rw[if_pos e]at d;split at d
     ·have h2:=hi.1.2;cases O:c.2 with
      |none=>rw[O]at d;cases d
      |some x=>rw[O]at d h2;cases d;exact h2
     ·cases d
    ·rw[p! e]at d;exact ah k o d
  have z:∀{a b:Nat},a<=b->∀v:V,v.ins a=true->v.ins b=true:=by
   intro a b ak v;have lt:∀i:Pos,o! i.nat a=true->o! i.nat b=true:=λi hi=>by simp only[k!] at*;omega
   induction v with
   |ptr i o=>exact lt i
   |slice i o m c=>exact lt i
   |map i=>exact lt i
   |func fn x y X Y=>
    intro hi;simp only[V.ins,b!]at hi⊢;refine⟨?_,X hi.2.1,Y hi.2.2⟩;have h1:=hi.1
    cases fn<;>first|rfl|(simp only[aii,k!]at h1⊢;omega)
   |iface t v N=>exact N
   |agg l N=>exact N
   |tuple l N=>exact N
   |cons x y X Y=>
    intro hi;simp only[V.ins,b!]at hi⊢;exact⟨X hi.1,Y hi.2⟩
   |_=>intro _;rfl
  have E:∀o:Ob,o.ins (G+n)=true->o.ins (G+n+news.length)=true:=by
   have hL:∀l:List V,insL (G+n) l=true->insL (G+n+news.length) l=true:=λl=>by
    induction l with
    |nil=>intro _;rfl
    |cons v l N=>intro h;simp only[insL,b!]at h⊢;exact⟨z (by omega) v h.1,N h.2⟩
   have hE:∀l:List (V×V),aa6 (G+n) l=true->aa6 (G+n+news.length) l=true:=λl=>by
    induction l with
    |nil=>intro _;rfl
    |cons v l N=>intro h;simp only[aa6,b!]at h⊢;exact⟨⟨z (by omega) _ h.1.1,z (by omega) _ h.1.2⟩,N h.2⟩
   intro o;cases o with
   |cells w cs=>exact hL cs
   |map es=>exact hE es
   |iter s n=>intro h;exact h
   |bytes cs=>exact hL cs
  have ai:=C cs (ks.map some) s4 (λk o d=>by
   rw[d!]at d;cases h:ks[k]? with
   |none=>rw[h]at d;cases d
   |some y=>rw[h]at d;cases d;exact E _ (UH s3 h))
  have gl:Glued (tau G L) (mkO G (ks.map some)) (mkO G (patch (ks.map some) cs++news.map some)) h (mkF (aaM t L h cs) (news.map (Ob.ren t))):=by
   have D:∀o:Option Ob,(∀x,o=some x->x.ins (G+n+news.length)=true)->o.map (Ob.ren t)=o.map (Ob.ren (sig (tau G L) (mkO G (ks.map some)).next.nat h.next.nat)):=λo ho=>by
    cases o with
    |none=>rfl
    |some x=>show some _=some _;rw[Ob.sJ (n:=G+n+news.length) (λi hi=>(J i hi).symm) (ho x rfl)]
   refine⟨?_,λi hi ag=>?_,λi hi ad=>?_,λj hj af=>?_⟩
   ·rw[aaZ,Gj,c!,u,Q];omega
   ·have hG:G<=i.nat:=by
     rcases e! i.nat G with x|x
     ·exfalso;apply ag;rw[MJ,if_neg (by omega)]
     ·exact x
    rw[u]at hi;obtain⟨p,hp,e2⟩:=B i hG hi;have al:=(k2 p (i! hp)).2;rw[e2,aic,Gj,if_neg (by omega),U.1 _ p hp,MJ,if_pos hG,l! (by rw[OD,c!,W];omega)];refine D _ λx K=>?_;refine ai (i.nat - G) x ?_;cases h:(patch (ks.map some) cs)[i.nat - G]? with
    |none=>rw[h]at K;cases K
    |some y=>rw[h]at K;cases y with
     |none=>cases K
     |some y=>cases K;rfl
   ·rw[u]at hi;rw[Q]at ad;have aj:(sig (tau G L) (mkO G (ks.map some)).next.nat h.next.nat i).nat=h.next.nat+(i.nat - (G+n)):=by rw[u,am0 hi,Pos.gG];omega
    rw[aic,Gj,c!,aj,if_pos (by omega),MJ,if_pos (by omega),j! (by rw[OD,c!,W];omega),OD,c!,W,
     d!,d!,show i.nat - G - n=h.next.nat+(i.nat - (G+n)) - h.next.nat by omega]
    have H:h.next.nat+(i.nat - (G+n)) - h.next.nat<news.length:=by omega
    rw[a! H];show some _=some _;have:=D (some news[h.next.nat+(i.nat - (G+n)) - h.next.nat]) λx K=>by cases K;exact UH s5 (a! H)
    exact this
   ·have ae:j∉L:=λhm=>by
     obtain⟨k,d,e2⟩:=List.mem_iff_getElem.1 hm;have O:L[k]?=some j:=by rw[a! d,e2]
     refine hj (Pos.of (G+k)) (by rw[Pos.gG,u];omega) ?_ (YP (by rw[Pos.gG];omega) (by rw[Pos.gG,n!];exact O));rw[MJ,Pos.gG,if_pos (by omega),n!,d!,a! (by omega:k<ks.length)];simp
    rw[aaZ,Gj,c!]at af;rw[aic,Gj,c!,if_neg (by omega)];exact U.2 j ae
  rw[c1];rw[k1]at ha;exact avS hD S (by rw[u];exact s2) gl Z ha
 ·exact hF args h r h' M w cargs e Z ha
def aIn{ρ:Pos->Pos}(h:∀i,ρ i=i)(f:Fn):Tn ρ f=f:=by
 cases f<;>first|rfl|(simp only[Tn,h,Pos.gG])
def V.aEL{ρ:Pos->Pos}(h:∀i,ρ i=i)(v:V):v.ren ρ=v:=by
 induction v with
 |ptr i o=>simp only[V.ren,h]
 |slice i o n c=>simp only[V.ren,h]
 |map i=>simp only[V.ren,h]
 |func fn a b d e=>simp only[V.ren,aIn h,d,e]
 |iface t v f=>simp only[V.ren,f]
 |agg l f=>simp only[V.ren,f]
 |tuple l f=>simp only[V.ren,f]
 |cons a b d e=>simp only[V.ren,d,e]
 |_=>rfl
def rD(A:List V->Option V)(F:Fun):Fun:=λargs h=>match A args with
 |some r=>.ok r h
 |none=>F args h
def lU{f:FuncId}{F:Fun}{A:List V->Option V}(l:aG P G f F)(t:∀args r,A args=some r->insL G args=true/\vZ G G [] [] r (F args (mkO G []))=true):aG P G f (rD A F):=by
 intro args h r h' M w cargs e c m;unfold rD at e;split at e
 ·rename_i z k;cases e;obtain⟨a1,a2⟩:=t _ _ k;have b:∀i,(mkO G []).get i=none:=λi=>by rw[MJ];split<;>rfl
  have hn:(mkO G []).next.nat=G:=by rw[UD];rfl
  have u:=Does.comp l hn a2;have a:r.ins G=true:=by
   unfold vZ at a2;split at a2
   ·simp only[b!]at a2;exact a2.1.2
   ·cases a2
  have hG:∀g,g<G->g<h.next.nat:=λg s=>by
   rcases e! g h.next.nat with q|q
   ·exact q
   ·obtain⟨n,hn⟩:=c.gl g s;rw[c.fresh (Pos.of g) (by rw[Pos.gG];exact q)]at hn;cases hn
  have S:Sub G (λi=>i) (mkO G []) h:=⟨λi j _ _ e=>e,λi hi=>by rw[hn]at hi;exact hG _ hi,(λi o hi=>by rw[b]at hi;cases hi),λg s=>⟨by omega,rfl⟩⟩
  have gl:Glued (λi=>i) (mkO G []) (mkO G []) h h:=⟨by omega,λi _ d=>absurd (b i) d,λi x y=>by omega,λj _ _=>rfl⟩
  have p:=avS u S (by rw[hn];exact a1) gl (M:=M) (w:=w) (cargs:=cargs) c (by
   have:args.map (V.ren λi=>i)=args:=by
    conv=>rhs;rw[<-List.map_id args]
    exact List.map_congr_left λv _=>V.aEL (λ_=>rfl) v
   rw[this];exact m)
  have e2:r.ren (sig (λi=>i) (mkO G []).next.nat h.next.nat)=r:=by
   rw[V.sJ (n:=G) (σ:=λi=>i) (λi hi=>afq (by rw[hn];exact hi)) a];exact V.aEL (λ_=>rfl) r
  rw[e2]at p;exact p
 ·exact l args h r h' M w cargs e c m
end
end Go.Vm
namespace Go.Ln
inductive Wds where
 |nil
 |cons (kind:Int) (text:List Nat) (kids rest:Wds)
 deriving DecidableEq
def Wds.len:Wds->Nat
 | .nil=>0
 | .cons _ _ _ r=>r.len+1
structure Wd where
 kind:Int
 text:List Nat
 kids:Wds
structure St where
 cur:List Nat
 rest:List (List Nat×List Nat)
def St.size(s:St):Nat:=s.cur.length+(s.rest.map λp=>p.2.length+1).sum
def Jf(c:Nat):Bool:=decide (33<=c/\c<=126/\c≠40/\c≠41/\c≠34/\c≠123)
def uQ(s:List Nat):Option Nat:=
 if s= []\/s.length>10\/(s.head?=some 48/\s.length>1)\/¬(∀c∈s,48<=c/\c<=57) then none
 else if s.foldl (λn c=>n*10+(c - 48)) 0>4294967295 then none else some (s.foldl (λn c=>n*10+(c - 48)) 0)
structure Rd where
 texts:List (List Nat):= []
 lits:List (List Nat):= []
 long:Nat:=0
 wide:Nat:=0
 now:List Nat:= []
 want:Nat:=0
 lit:List Nat:= []
 literal:Bool:=false
 skip:Nat:=0
 line:Bool:=false
structure Got where
 kind:Int
 words:Wds
end Go.Ln
namespace Go.Proofs.Im
open Go.Proofs.Tryz
def aN:prog.follows .mixedOrders=true:=by kernel_rfl
def aI:Nat:=7
abbrev fu:=aG prog aI
abbrev xD:=dO prog aI (λ_=>true)
abbrev c_(k:List Nat):=aY prog (kp k)
def aSn:Fun:=av3
def aT8:fu 289 aSn:=aqn func289 (by kernel_rfl) (by kernel_rfl) (by kernel_rfl) (by kernel_rfl)
def aRR:F->Hp->Out:=zz
def awT:Fun:=c_ [0,1,4] f107.ntmps [.tmp 4] aRR
def aSe:fu 107 awT:=prX aN [0,1] [] bC func107
def aRW:F->Hp->Out:=zz
def Zm:Fun:=c_ [0,1,4] f365.ntmps [.tmp 4] aRW
def anR:fu 365 Zm:=prX aN [0,1] [] bC func365
def aRV:F->Hp->Out:=zz
def anW:Fun:=c_ [0,1,4,5,9] f352.ntmps [.tmp 4,.tmp 5] aRV
def aFY:fu 352 anW:=prX aN [0,1,2,3] [] bC func352
def aR0:F->Hp->Out:=zz
def an0:Fun:=c_ [0,1,4] f170.ntmps [.tmp 4] aR0
def aF3:fu 170 an0:=prX aN [0,1] [] bC func170
def aRZ:F->Hp->Out:=zz
def anZ:Fun:=c_ [0,2,3,4,5,6,7,8,9,22,38] f171.ntmps [.tmp 2,.tmp 3,.tmp 4,.tmp 5] aRZ
def aF2:fu 171 anZ:=prX aN [0,1,2,3,4,5,6,7,8,9] [] bC func171
def aRX:F->Hp->Out:=zz
def awY:Fun:=c_ [0,2] f281.ntmps [.tmp 2] aRX
def aSi:fu 281 awY:=prX aN [0,1] [] bC func281
def aRT:F->Hp->Out:=zz
def awV:Fun:=c_ [0,2] f425.ntmps [.tmp 2] aRT
def aSg:fu 425 awV:=prX aN [0,1] [] bC func425
def aRU:F->Hp->Out:=zz
def OQ:Fun:=c_ [0,1,4,5,15] f367.ntmps [.tmp 4] aRU
def aFX:fu 367 OQ:=prX aN [0,1,2,3,4,5] [] bC func367
def aT4:F->Hp->Out:=zz
def aRS:F->Hp->Out:=zz
def awU:Fun:=c_ [0,2,3,4,5,6,10,26,31,34,49] f426.ntmps [.tmp 2,.tmp 3] aRS
def aSf:fu 426 awU:=prX aN [0,1,2,3,5,6,8,9,10,11,12,13,14,15,16,7,4,17] [] bC func426
def aFQ:Nat->Bool:=λt=>MK t [0,1,4,5,6,7,8,9,10,11,12,13,14,39,50,54,58,99]
def aI9(c:Fun)(fr:F)(h:Hp):Out:=
 fA 149 [(.int .i64 0),(.str []),.aP] h λa b=>
 Out.nor (ss 5 (.bool false) (ss 4 a fr)) b
def aI8(d:Fun)(fr:F)(h:Hp):Out:=
 fr 0 λa=>awV [a] h λb c=>
 Out.nor (ss 14 b fr) c
def aI7(g:Fun)(fr:F)(h:Hp):Out:=
 fr 0 λa=>aO a (aK 1 h) λb _=>
 aC 1 b (aK 1 h) λc _=>
 aF c (aK 1 h) λd _=>
 fr 0 λi=>aO i (aK 1 h) λj _=>
 aC 2 j (aK 1 h) λm _=>
 aF m (aK 1 h) λn _=>
 aX 1 d n (aK 1 h) λo _=>
 aF o (aK 1 h) λp _=>
 bW [(.int .i64 0),(.str []),.aP] [(0,1,(.int .i64 2)),(1,1,p)] (aK 1 h) λq _=>
 Aw (QG 149 [(.int .i64 0),(.str []),.aP]) λf e=>
 aS 3 (e (Hp.next h)) q (Hp.put (aK 1 h) (Hp.next h) (some f)) λ_ r=>
 Out.nor (ss 6 (e (Hp.next h)) fr) r
def aI6(e:Fun)(fr:F)(h:Hp):Out:=
 fr 0 λa=>aO a h λb c=>
 aC 2 b c λd i=>
 aF d i λj m=>
 aH .add .none j (.int .i64 1) m λn o=>
 aO a o λp q=>
 aC 2 p q λr s=>
 aS 1 r n s λ_ t=>
 Out.nor fr t
def aI5(e:Fun)(fr:F)(h:Hp):Out:=
 fr 0 λa=>aO a h λb c=>
 aC 3 b c λd i=>
 aS 1 d (.int .i64 0) i λ_ j=>
 Out.nor fr j
def aI4(e:Fun)(fr:F)(h:Hp):Out:=
 fr 6 λa=>bH 3 a h λb c=>
 fr 4 λd=>aS 3 d b c λ_ i=>
 Out.nor (ss 5 (.bool true) fr) i
def aI3(d:Fun)(fr:F)(h:Hp):Out:=
 fr 0 λa=>OQ [a,(.int .u8 34)] h λb c=>
 Out.nor (ss 39 b fr) c
def aI2(e:Fun)(fr:F)(h:Hp):Out:=
 fr 0 λa=>awU [a] h λb c=>
 bK 0 b c λd i=>
 bK 1 b i λj m=>
 Out.nor (ss 8 j (ss 7 d fr)) m
def aI1(e:Fun)(fr:F)(h:Hp):Out:=
 fr 7 λa=>bW [(.int .i64 0),(.str []),.aP] [(0,1,(.int .i64 2)),(1,1,a)] h λb c=>
 fr 8 λd=>fr 4 λi=>aS 3 i b c λ_ j=>
 Out.nor (ss 5 d fr) j
def aI0(d:Fun)(fr:F)(h:Hp):Out:=
 fr 0 λa=>OQ [a,(.int .u8 40)] h λb c=>
 Out.nor (ss 50 b fr) c
def aFN(d:Fun)(fr:F)(h:Hp):Out:=
 fr 1 λa=>aH .geq .none a (.int .i64 8) h λb c=>
 Out.nor (ss 54 b fr) c
def aFM(e:Fun)(fr:F)(h:Hp):Out:=
 bW [(.int .i64 0),(.str []),.aP] [] h λa b=>
 fr 4 λc=>aS 3 c a b λ_ d=>
 Out.nor (ss 5 (.bool false) fr) d
def aFL(e:Fun)(fr:F)(h:Hp):Out:=
 bW [(.int .i64 0),(.str []),.aP] [(0,1,(.int .i64 3))] h λa b=>
 fA 149 [(.int .i64 0),(.str []),.aP] b λc d=>
 aS 3 c a d λ_ i=>
 Out.nor (ss 9 c fr) i
def aFK(d:Fun)(fr:F)(h:Hp):Out:=
 fr 0 λa=>OQ [a,(.int .u8 41)] h λb c=>
 Out.nor (ss 58 b fr) c
def aFJ(e:Fun)(fr:F)(h:Hp):Out:=
 fr 9 λa=>bH 3 a h λb c=>
 fr 4 λd=>aS 3 d b c λ_ i=>
 Out.nor (ss 5 (.bool true) fr) i
def aFI(e:Fun)(fr:F)(h:Hp):Out:=
 fr 0 λa=>fr 1 λb=>aH .add .none b (.int .i64 1) h λc d=>
 e [a,c] d λi j=>
 bK 0 i j λm n=>
 bK 1 i n λo p=>
 Out.nor (ss 11 o (ss 10 m fr)) p
def aFH(e:Fun)(fr:F)(h:Hp):Out:=
 fr 10 λa=>fr 9 λb=>aC 2 b h λc d=>
 aS 1 c a d λ_ i=>
 Out.nor fr i
def aFG(e:Fun)(fr:F)(h:Hp):Out:=
 fr 11 λa=>ifB a (fr 0 λb=>OQ [b,(.int .u8 41)] (aK 0 h) λc d=>
 fr 9 λi=>bH 3 i d λj _=>chk (λh=>bH 3 i h) j (
 fr 4 λm=>aS 3 m j d λ_ n=>
 Out.nor (ss 5 c fr) n) 1 [(aK 0 h)]) (fr 9 λi=>bH 3 i (aK 0 h) λj _=>chk (λh=>bH 3 i h) j (
 fr 4 λm=>aS 3 m j (aK 0 h) λ_ n=>
 Out.nor (ss 5 (.bool false) fr) n) 1 [(aK 0 h)])
def aFF(d:Fun)(fr:F)(h:Hp):Out:=
 fr 0 λa=>awY [a] h λb c=>
 Out.nor (ss 12 b fr) c
def aFE(a:Fun)(fr:F)(h:Hp):Out:=
 Out.nor (ss 13 (.int .i64 0) fr) h
def aFD(e:Fun)(fr:F)(h:Hp):Out:=
 fr 13 λa=>fr 12 λb=>aZ 1 b h λc d=>
 aH .lss .none a c d λi j=>
 ifB i (jY b a j λm n=>
 aH .geq .none m (.int .u8 33) n λo p=>
 ifB o (jY b a p λq r=>
 aH .leq .none q (.int .u8 126) r λs t=>
 ifB s (jY b a t λu v=>
 awT [(.str [40,41,34,123]),u] v λw x=>
 aH .lss .none w (.int .i64 0) x λy z=>
 Out.nor (ss 99 y fr) z) (Out.nor (ss 99 (.bool false) fr) t)) (Out.nor (ss 99 (.bool false) fr) p)) (Out.nor (ss 99 (.bool false) fr) j)
def aFC(d:Fun)(fr:F)(h:Hp):Out:=
 fr 13 λa=>aH .add .none a (.int .i64 1) h λb c=>
 Out.nor (ss 13 b fr) c
def aFB(e:Fun)(fr:F)(h:Hp):Out:=
 fr 0 λa=>aO a h λb c=>
 aC 3 b c λd i=>
 aF d i λj m=>
 fr 13 λn=>aH .add .none j n m λo p=>
 aO a p λq r=>
 aC 3 q r λs t=>
 aS 1 s o t λ_ u=>
 Out.nor fr u
def aFA(e:Fun)(fr:F)(h:Hp):Out:=
 fr 12 λa=>fr 13 λb=>Gn a none (some b) h λc d=>
 bW [(.int .i64 0),(.str []),.aP] [(0,1,(.int .i64 1)),(1,1,c)] d λi j=>
 aH .gtr .none b (.int .i64 0) j λm n=>
 fr 4 λo=>aS 3 o i n λ_ p=>
 Out.nor (ss 5 m fr) p
def aF7(a:Fun):F->Hp->Out:=(aB (aB (aFD a) (tT 99 Out.nor (Out.ex 1))) (bD 2 (aFC a)))
def aFU(a:Fun):F->Hp->Out:=(aB (aI9 a) (aB (bD 0 (aB (aI8 a) (tT 14 (aB (aI7 a) (aB (aI6 a) (aB (aI5 a) (aB (aI4 a) Out.ret)))) (aB (aI3 a) (tT 39 (aB (aI2 a) (aB (aI1 a) Out.ret)) (aB (aI0 a) (tT 50 (aB (aB (aFN a) (tT 54 (aB (aFM a) Out.ret) Out.nor)) (aB (aFL a) (aB (aB (aFK a) (tT 58 (aB (aFJ a) Out.ret) Out.nor)) (aB (aFI a) (aB (aFH a) (aB (aFG a) Out.ret)))))) Out.nor))))))) (aB (aFF a) (aB (aFE a) (aB (bD 1 (dG (aF7 a) lf)) (aB (aFB a) (aB (aFA a) Out.ret)))))))
def aFS(a:Fun):FuncId->Option Fun:=λf=>match h! f 425 with|true=>some awV|false=>match h! f 367 with|true=>some OQ|false=>match h! f 426 with|true=>some awU|false=>match h! f 280 with|true=>some a|false=>match h! f 281 with|true=>some awY|false=>match h! f 107 with|true=>some awT|false=>none
def aFO:bY:=λid=>match h! id 2 with|true=>some ([0,1,3,7,0,16,48,112,255,511,1023,0,4095],[(0,.pure),(1,.pure),(2,.pure),(3,.read 0),(4,.pure),(5,.pure),(6,.pure),(7,.read 0),(8,.pure),(9,.read 0),(10,.pure),(11,.alloc),(12,.heavy)])|false=>match h! id 17 with|true=>some ([0,0,2,6,14,30,31,127],[(1,.pure),(2,.pure),(3,.pure),(4,.heavy),(0,.read 1),(6,.heavy),(5,.pure),(7,.pure)])|false=>none
def awW(a:Fun):Fun:=dO prog aI aFQ (aFS a) aFO lf f366
def aSo(a:Fun):lY prog aI f366.ntmps aFQ (aFS a) aFO lf (codeOf f366)=(aFU a):=by kernel_rfl
def aTv(a:Fun)(x0 b:V)(h:Hp):(awW a) [x0,b] h=bV prog [.cell 4 149,.tmp 5] ((aFU a) (T.set (some b) (Pos.of 1) (T.set (some x0) (Pos.of 0) T.nil)) h):=aAJ (by kernel_rfl) (aSo a) (by kernel_rfl) h
def aSh(a:Fun)(b:fu 280 a):fu 366 (awW a):=bF aN (aQ aSg (aQ aFX (aQ aSf (aQ b (aQ aSi (aQ aSe aW)))))) func366 (by kernel_rfl)
def aFR:Nat->Bool:=λt=>MK t [0,1,4,5,6,7,8,16,23]
def aJh(a:Fun)(fr:F)(h:Hp):Out:=
 Out.nor (ss 5 (.bool false) (ss 4 .aP fr)) h
def aJg(a:Fun)(fr:F)(h:Hp):Out:=
 Out.nor (ss 6 .aP fr) h
def aJf(e:Fun)(fr:F)(h:Hp):Out:=
 fr 0 λa=>fr 1 λb=>e [a,b] h λc d=>
 bK 0 c d λi j=>
 bK 1 c j λm n=>
 fA 149 [(.int .i64 0),(.str []),.aP] n λo p=>
 aS 3 o i p λ_ q=>
 Out.nor (ss 8 m (ss 7 o fr)) q
def aJe(d:Fun)(fr:F)(h:Hp):Out:=
 fr 8 λa=>oUn .not a h λb c=>
 Out.nor (ss 16 b fr) c
def aJd(a:Fun)(fr:F)(h:Hp):Out:=
 Out.nor (ss 5 (.bool false) (ss 4 .aP fr)) h
def aJc(e:Fun)(fr:F)(h:Hp):Out:=
 fr 6 λa=>fr 7 λb=>bH 3 b h λc d=>
 bU 149 [(.int .i64 0),(.str []),.aP] 1 [(0,3,c)] d λi j=>
 bZ 149 3 48 a i j λm n=>
 Out.nor (ss 6 m fr) n
def aJb(e:Fun)(fr:F)(h:Hp):Out:=
 fr 0 λa=>OQ [a,(.int .u8 32)] h λb c=>
 oUn .not b c λd i=>
 Out.nor (ss 23 d fr) i
def aJa(b:Fun)(fr:F)(h:Hp):Out:=
 fr 6 λa=>Out.nor (ss 5 (.bool true) (ss 4 a fr)) h
def aJp(a:Fun):F->Hp->Out:=(bD 1 (aB (aJf a) (aB (aB (aJe a) (tT 16 (aB (aJd a) Out.ret) Out.nor)) (aB (aJc a) (aB (aJb a) (tT 23 (aB (aJa a) Out.ret) Out.nor))))))
def aFV(a:Fun):F->Hp->Out:=(aB (aJh a) (aB (aJg a) (bD 0 (dG (aJp a) lf))))
def aFT(a:Fun):FuncId->Option Fun:=λf=>match h! f 366 with|true=>some a|false=>match h! f 367 with|true=>some OQ|false=>none
def aFP:bY:=λid=>none
def anX(a:Fun):Fun:=dO prog aI aFR (aFT a) aFP lf f280
def aSp(a:Fun):lY prog aI f280.ntmps aFR (aFT a) aFP lf (codeOf f280)=(aFV a):=by kernel_rfl
def aTw(a:Fun)(x0 b:V)(h:Hp):(anX a) [x0,b] h=bV prog [.tmp 4,.tmp 5] ((aFV a) (T.set (some b) (Pos.of 1) (T.set (some x0) (Pos.of 0) T.nil)) h):=aAJ (by kernel_rfl) (aSp a) (by kernel_rfl) h
def aF0(a:Fun)(b:fu 366 a):fu 280 (anX a):=bF aN (aQ b (aQ aFX aW)) func280 (by kernel_rfl)
def aJq:Nat->Fun
 |0=>λ_ _=>.bad
 |n+1=>awW (anX (aJq n))
def aBk:∀n,fu 366 (aJq n)
 |0=>λ_ _ _ _ _ _ _ e=>by cases e
 |n+1=>aSh _ (aF0 _ (aBk n))
def aOx:Fun:=anX (aJq 20)
def aT7:fu 280 aOx:=aF0 _ (aBk 20)
def aT5:F->Hp->Out:=zz
def aRY:F->Hp->Out:=zz
def anY:Fun:=c_ [0,1,4,5,6,7,8,9,10,12,13,14,45] f172.ntmps [.tmp 4,.tmp 5] aRY
def aF1:fu 172 anY:=prX aN [0,1,2,3,4,5,6,7,8,9,10] [] bC func172
def aR1:F->Hp->Out:=zz
def an1:Fun:=c_ [0,2] f40.ntmps [.tmp 2] aR1
def aF6:fu 40 an1:=prX aN [0,1] [] bC func40
end Go.Proofs.Im
namespace Go.Ln
open Go.Proofs.Im
def Wds.app:Wds->Wds->Wds
 | .nil,b=>b
 | .cons k t ks r,b=>.cons k t ks (r.app b)
def WAt(P:Pos->Prop)(h:Hp):Wds->List V->Prop
 | .nil,cs=>cs= []
 | .cons k t ks r,cs=>∃vk a cr,cs= [.int .i64 k,.str t,vk]++cr/\Ow 0 h 149 3 vk ks.len a/\(∀j,bI vk=some j->P j/\k=3)/\WAt P h ks a/\WAt P h r cr
def UO(P:Pos->Prop)(h:Hp)(v:V)(ws:Wds):Prop:=∃cs,Ow 0 h 149 3 v ws.len cs/\(∀j,bI v=some j->P j)/\WAt P h ws cs
def WAt.ch{P P' S:Pos->Prop}{h h':Hp}(c:Ch S h h')(d:∀j:Pos,j.nat<h.next.nat->P j->P' j/\¬S j):∀{ws:Wds} {cs:List V},WAt P h ws cs->WAt P' h' ws cs
 | .nil,_,w=>w
 | .cons k t ks r,_,⟨vk,f,cr,e,o,p,a,b⟩=>⟨vk,f,cr,e,o.ch c λj hj=>(d j (o.eY hj).2 (p j hj).1).2,λj hj=>⟨(d j (o.eY hj).2 (p j hj).1).1,(p j hj).2⟩,WAt.ch c d a,WAt.ch c d b⟩
def UO.ch{P P' S:Pos->Prop}{h h':Hp}{v:V}{ws:Wds}(w:UO P h v ws)(c:Ch S h h')(b:∀j:Pos,j.nat<h.next.nat->P j->P' j/\¬S j):UO P' h' v ws:=by
 obtain⟨cs,o,p,a⟩:=w;exact⟨cs,o.ch c λj hj=>(b j (o.eY hj).2 (p j hj)).2,λj hj=>(b j (o.eY hj).2 (p j hj)).1,a.ch c b⟩
end Go.Ln
namespace Go.Vm
structure Stp (S:Pos->Prop) (h:Hp) (S':Pos->Prop) (h':Hp):Prop where
 ch:Ch S h h'
 sub:∀j,S' j->S j\/h.next.nat<=j.nat
def Stp.refl(S:Pos->Prop)(h:Hp):Stp S h S h:=⟨Ch.refl _ _,λ_ q=>.inl q⟩
def Stp.trans{S a b:Pos->Prop}{h c d:Hp}(x:Stp S h a c)(y:Stp a c b d):Stp S h b d:=
 ⟨x.ch.trans y.ch λj hj q=>(x.sub j q).resolve_right (by omega),λj q=>(y.sub j q).elim (λq=>x.sub j q) λq=>.inr (Nat.le_trans x.ch.next q)⟩
def Stp.step{S a C:Pos->Prop}{h b d:Hp}(x:Stp S h a b)(c:Ch C b d)(e:∀j,C j->a j):Stp S h a d:=x.trans ⟨c.mono λj _ q=>e j q,λ_ q=>.inl q⟩
end Go.Vm
namespace Go.Proofs.Im
open Go.Ln
def GAt(P:Pos->Prop)(h:Hp):List Ln.Got->List V->Prop
 | [],cs=>cs= []
 |g::l,cs=>∃vw cr,cs= [.int .i64 g.kind,vw]++cr/\UO P h vw g.words/\GAt P h l cr
def GAt.ch{P P' S:Pos->Prop}{h h':Hp}(c:Ch S h h')(d:∀j:Pos,j.nat<h.next.nat->P j->P' j/\¬S j):∀{l:List Ln.Got} {cs:List V},GAt P h l cs->GAt P' h' l cs
 | [],_,w=>w
 |g::l,_,⟨vw,cr,e,a,b⟩=>⟨vw,cr,e,a.ch c d,GAt.ch c d b⟩
end Go.Proofs.Im
namespace Go.Ln
def Wds.get?:Wds->Nat->Option Wd
 | .nil,_=>none
 | .cons k t ks _,0=>some ⟨k,t,ks⟩
 | .cons _ _ _ r,n+1=>r.get? n
def Wds.MP:∀{ws:Wds} {k:Nat} {w:Wd},ws.get? k=some w->k<ws.len
 | .nil,_,_,h=>by cases h
 | .cons _ _ _ _,0,_,_=>by simp[Wds.len]
 | .cons _ _ _ r,n+1,w,h=>by have:=Wds.MP (ws:=r) h;simp only[Wds.len];omega
end Go.Ln
namespace Go.Proofs.Im
open Go.Ln
def Told(P:Pos->Prop)(h:Hp)(v:V)(gs:List Ln.Got):Prop:=∃cs,Ow 0 h 94 2 v gs.length cs/\(∀j,bI v=some j->P j)/\GAt P h gs cs
def Told.ch{P P' S:Pos->Prop}{h h':Hp}{v:V}{gs:List Ln.Got}(t:Told P h v gs)(c:Ch S h h')(a:∀j:Pos,j.nat<h.next.nat->P j->P' j/\¬S j):Told P' h' v gs:=by
 obtain⟨cs,o,i,w⟩:=t;exact⟨cs,o.ch c λj hj=>(a j (o.eY hj).2 (i j hj)).2,λj hj=>(a j (o.eY hj).2 (i j hj)).1,w.ch c a⟩
def Told.len{P:Pos->Prop}{h:Hp}{v:V}{gs:List Ln.Got}(t:Told P h v gs)(h':Hp):aZ 2 v h'=.ok (.int .i64 (gs.length:Int)) h':=by
 obtain⟨cs,o,i,w⟩:=t;exact o.sl.length
def GAt.get{P:Pos->Prop}{h:Hp}:∀{gs:List Ln.Got} {cs:List V} {k:Nat} {g:Ln.Got},GAt P h gs cs->gs[k]?=some g->cs[k*2]?=some (.int .i64 g.kind)/\∃vw,cs[k*2+1]?=some vw/\UO P h vw g.words
 | [],_,k,g,_,e=>by cases e
 |a::l,_,0,g,⟨vw,cr,e1,w,r⟩,e=>by
  cases e;subst e1;exact⟨rfl,vw,rfl,w⟩
 |a::l,_,k+1,g,⟨vw,cr,e1,w,r⟩,e=>by
  subst e1;have:=GAt.get (k:=k) r e;rw[show(k+1)*2=k*2+2 by omega];exact this
def WAt.get{P:Pos->Prop}{h:Hp}:∀{ws:Wds} {cs:List V} {k:Nat} {w:Wd},WAt P h ws cs->ws.get? k=some w->cs[k*3]?=some (.int .i64 w.kind)/\cs[k*3+1]?=some (.str w.text)/\∃vk,cs[k*3+2]?=some vk/\UO P h vk w.kids
 | .nil,_,k,w,_,e=>by cases e
 | .cons _ _ _ _,_,0,w,⟨vk,a,cr,e1,o,p,x,r⟩,e=>by
  cases e;subst e1;exact⟨rfl,rfl,vk,rfl,a,o,λj hj=>(p j hj).1,x⟩
 | .cons _ _ _ l,_,k+1,w,⟨vk,a,cr,e1,o,p,x,r⟩,e=>by
  subst e1;have:=WAt.get (k:=k) r e;rw[show(k+1)*3=k*3+3 by omega];exact this
end Go.Proofs.Im
