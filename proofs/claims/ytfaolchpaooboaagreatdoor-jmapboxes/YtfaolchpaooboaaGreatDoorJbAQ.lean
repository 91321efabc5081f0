/- Part of the claim: facts that its last text uses. No conditions. -/
import Derived.Test.YtfaolchpaooboaaGreatDoorJbAP
set_option linter.all false
namespace Go.Vm
noncomputable section
variable{P:Program}{G:Nat}
def aub:List Pos→Pos→List Pos
 | [],p=> [p]
 |q::l,p=>q::aub l p
def ana:List Pos→Nat
 | []=>0
 |_::l=>(ana l).succ
def as4(G:Nat)(i j:Pos)(L:List Pos):List Pos:=match Nat.beq i.nat (G+ana L) with|true=>aub L j|false=>L
def am2(G:Nat)(p:V):V→List Pos→List Pos:=
 V.rec (motive:=fun _=>V→List Pos→List Pos) (fun _ _ L=>L) (fun _ _ _ L=>L) (fun _ _ L=>L)
  (fun i _ v L=>match v with| .ptr j _=>as4 G i j L|_=>L) (fun _ L=>L)
  (fun i _ _ _ v L=>match v with| .slice j _ _ _=>as4 G i j L|_=>L) (fun _ L=>L) (fun _ L=>L)
  (fun i v L=>match v with| .map j=>as4 G i j L|_=>L) (fun _ L=>L)
  (fun _ _ _ iha ihb v L=>match v with| .func _ c d=>ihb d (iha c L)|_=>L) (fun _ L=>L)
  (fun _ _ ih v L=>match v with| .iface _ u=>ih u L|_=>L) (fun _ L=>L)
  (fun _ ih v L=>match v with| .agg u=>ih u L|_=>L) (fun _ ih v L=>match v with| .tuple u=>ih u L|_=>L) (fun _ L=>L)
  (fun _ _ iha ihb v L=>match v with| .cons c d=>ihb d (iha c L)|_=>L) p
def am3(G:Nat):List V→List V→List Pos→List Pos
 | [],_,L=>L
 |p::ps,vs,L=>(match vs with| []=>L|v::vs=>am3 G ps vs (am2 G p v L))
def aEI(G:Nat):List (V×V)→List (V×V)→List Pos→List Pos
 | [],_,L=>L
 |p::ps,vs,L=>(match vs with| []=>L|v::vs=>aEI G ps vs (am2 G p.2 v.2 (am2 G p.1 v.1 L)))
def aOl(G:Nat)(o q:Ob)(L:List Pos):List Pos:=match o with
 | .cells _ l=>(match q with| .cells _ k=>am3 G l k L|_=>L)
 | .map l=>(match q with| .map k=>aEI G l k L|_=>L)
 |_=>L
def auT(G:Nat)(h:Hp):List Ob→Nat→List Pos→Option (List Pos)
 | [],_,L=>some L
 |o::ks,n,L=>(match Nat.blt n (ana L) with
  |true=>(match h.get (oV n L) with
   |some q=>(match aOl G o q L with|L'=>(match yM q (o.ren (tau G L')) with|true=>auT G h ks n.succ L'|false=>none))
   |none=>none)
  |false=>none)
def IU(t:Pos→Pos):List V→List V
 | []=> []
 |v::l=>v.ren t::IU t l
theorem UJ(t:Pos→Pos):∀l:List V,IU t l=l.map (V.ren t)
 | []=>rfl
 |v::l=>by rw [IU,UJ t l];rfl
def JR(p:Pos):List Pos→Bool
 | []=>false
 |q::l=>(match p.eq q with|true=>true|false=>JR p l)
theorem sN{p:Pos}:∀{l:List Pos},JR p l=false→p∉l
 | [],_,h=>by cases h
 |q::l,e,h=>by
  unfold JR at e
  split at e
  ·cases e
  ·rename_i hq
   rcases List.mem_cons.1 h with rfl|h
   ·rw [Pos.eq_iff.2 rfl] at hq;cases hq
   ·exact sN e h
def Ah:List Pos→Bool
 | []=>true
 |p::l=>(match JR p l with|true=>false|false=>Ah l)
theorem FN:∀{l:List Pos},Ah l=true→l.Nodup
 | [],_=>List.nodup_nil
 |p::l,h=>by
  unfold Ah at h
  split at h
  ·cases h
  ·rename_i hm
   exact List.nodup_cons.2 ⟨sN hm,FN h⟩
theorem FM{l:List Pos}(h:l.Nodup){i j:Nat}{p:Pos}(hi:l[i]?=some p)(hj:l[j]?=some p):i=j:=by
 have h:=List.pairwise_iff_getElem.1 (List.nodup_iff_pairwise_ne.1 h)
 obtain⟨a,ha⟩:=List.getElem?_eq_some_iff.1 hi
 obtain⟨b,hb⟩:=List.getElem?_eq_some_iff.1 hj
 rcases Nat.lt_trichotomy i j with q|q|q
 ·exact absurd (ha.trans hb.symm) (h i j a b q)
 ·exact q
 ·exact absurd (hb.trans ha.symm) (h j i b a q)
def zV(a b:Nat):List Pos→Bool
 | []=>true
 |p::l=>(Nat.ble a p.nat&&Nat.blt p.nat b)&&zV a b l
theorem FC{a b:Nat}:∀{l:List Pos},zV a b l=true→∀p∈l,a≤p.nat∧p.nat<b
 | [],_,p,h=>by cases h
 |q::l,e,p,h=>by
  simp only [zV,Bool.and_eq_true] at e
  rcases List.mem_cons.1 h with rfl|h
  ·exact⟨Nat.le_of_ble_eq_true e.1.1,by simpa [Nat.blt_eq] using e.1.2⟩
  ·exact FC e.2 p h
def aby(t:Pos→Pos)(h:Hp):List Pos→List Ob→Bool
 | [],ks=>(match ks with| []=>true|_::_=>false)
 |p::l,ks=>(match ks with| []=>false|o::ks=>(match h.get p with|some q=>yM q (o.ren t)|none=>false)&&aby t h l ks)
theorem UM{t:Pos→Pos}{h:Hp}:∀{l:List Pos} {ks:List Ob},aby t h l ks=true→l.length=ks.length∧∀(k:Nat) (p:Pos) (o:Ob),l[k]?=some p→ks[k]?=some o→h.get p=some (o.ren t)
 | [],[],_=>⟨rfl,fun k p o h=>by simp at h⟩
 | [],_::_,h=>by cases h
 |_::_,[],h=>by cases h
 |p::l,o::ks,e=>by
  simp only [aby,Bool.and_eq_true] at e
  obtain⟨a,b⟩:=UM e.2
  refine⟨by simp [a],fun k q x hk hx=>?_⟩
  cases k with
  |zero=>
   simp at hk hx;subst hk;subst hx
   have e1:=e.1
   split at e1
   ·rename_i y hy;rw [hy,xg e1]
   ·cases e1
  |succ k=>simp at hk hx;exact b k q x hk hx
def okC(G:Nat)(a0:List V)(ks:List Ob)(args:List V)(h:Hp)(L:List Pos):Bool:=
 (eqL args (IU (tau G L) a0)&&zV G h.next.nat L)&&(Ah L&&aby (tau G L) h L ks)
def anj(G:Nat)(a0:List V)(ks:List Ob)(args:List V)(h:Hp):Option (List Pos):=match am3 G a0 args [] with
 |L0=>(match eqL args (IU (tau G L0) a0) with
  |true=>(match auT G h ks 0 L0 with
   |some L=>(match okC G a0 ks args h L with|true=>some L|false=>none)
   |none=>none)
  |false=>none)
theorem ayf{a0:List V}{ks:List Ob}{args:List V}{h:Hp}{L:List Pos}(e:anj G a0 ks args h=some L):okC G a0 ks args h L=true:=by
 unfold anj at e
 dsimp only at e
 split at e
 ·split at e
  ·split at e
   ·rename_i hk;cases e;exact hk
   ·cases e
  ·cases e
 ·cases e
def succs:Pos→List Ob→List Pos
 |_,[]=> []
 |p,_::l=>p::succs p.succ l
theorem Fp:∀{l:List Ob} {p:Pos} {k:Nat},k<l.length→(succs p l)[k]?=some (Pos.of (p.nat+k))
 | [],_,_,h=>by cases h
 |_::l,p,0,_=>by simp only [succs,List.getElem?_cons_zero,Nat.add_zero,Pos.qI]
 |_::l,p,k+1,h=>by
  simp only [succs,List.getElem?_cons_succ]
  rw [Fp (by simpa using h),Pos.dS]
  congr 2;omega
def agD:List Pos→List Pos→List Pos
 | [],m=>m
 |p::l,m=>p::agD l m
theorem YL:∀l m:List Pos,agD l m=l++m
 | [],_=>rfl
 |p::l,m=>by rw [agD,YL l m];rfl
def patch:List (Option Ob)→List (Nat×Option Ob)→List (Option Ob)
 |os,[]=>os
 |os,c::cs=>patch (os.set c.1 c.2) cs
def am5(t:Pos→Pos)(o:Option Ob):Option Ob:=match o with|some x=>some (x.ren t)|none=>none
theorem av1(t:Pos→Pos)(o:Option Ob):am5 t o=o.map (Ob.ren t):=by cases o<;>rfl
def uT(t:Pos→Pos)(L:List Pos):Hp→List (Nat×Option Ob)→Hp
 |h,[]=>h
 |h,c::cs=>uT t L (h.put (oV c.1 L) (am5 t c.2)) cs
def abn(t:Pos→Pos):List Ob→List Ob
 | []=> []
 |o::l=>o.ren t::abn t l
theorem UI(t:Pos→Pos):∀l:List Ob,abn t l=l.map (Ob.ren t)
 | []=>rfl
 |v::l=>by rw [abn,UI t l];rfl
def avr(G:Nat)(cs:List (Nat×Option Ob))(news:List Ob)(rc:V)(L:List Pos)(h:Hp):R V:=match tau G (agD L (succs h.next news)) with
 |t=>.ok (rc.ren t) (mkF (uT t L h cs) (abn t news))
def aS(G:Nat)(a0:List V)(ks:List Ob)(cs:List (Nat×Option Ob))(news:List Ob)(rc:V)(F:Fun):Fun:=fun args h=>match anj G a0 ks args h with
 |some L=>avr G cs news rc L h
 |none=>F args h
def vJ(n:Nat):List Ob→Bool
 | []=>true
 |o::l=>o.ins n&&vJ n l
theorem o5{n:Nat}:∀{l:List Ob} {k:Nat} {o:Ob},vJ n l=true→l[k]?=some o→o.ins n=true
 | [],k,o,_,h=>by simp at h
 |x::l,0,o,h,e=>by
  simp only [vJ,Bool.and_eq_true] at h
  simp at e;subst e;exact h.1
 |x::l,k+1,o,h,e=>by
  simp only [vJ,Bool.and_eq_true] at h
  exact o5 h.2 (by simpa using e)
def Ef(n m:Nat):List (Nat×Option Ob)→Bool
 | []=>true
 |c::cs=>(Nat.blt c.1 n&&(match c.2 with|some o=>o.ins m|none=>true))&&Ef n m cs
def aK(G n:Nat)(a0:List V)(ks:List Ob)(cs:List (Nat×Option Ob))(news:List Ob)(rc:V):Bool:=
 (Nat.beq ks.length n&&(insL (G+n) a0&&vJ (G+n) ks))&&(Ef n (G+n+news.length) cs&&(vJ (G+n+news.length) news&&rc.ins (G+n+news.length)))
theorem nC:∀{cs:List (Nat×Option Ob)} {os:List (Option Ob)},(patch os cs).length=os.length
 | [],_=>rfl
 |c::cs,os=>by rw [patch,nC,List.length_set]
theorem kZ(t:Pos→Pos)(L:List Pos):∀(cs:List (Nat×Option Ob)) (h:Hp),(uT t L h cs).next=h.next
 | [],_=>rfl
 |c::cs,h=>by rw [uT,kZ t L cs];rfl
theorem I8{t:Pos→Pos}{L:List Pos}{n m:Nat}(hn:L.length=n)(hd:L.Nodup):∀{cs:List (Nat×Option Ob)} {h:Hp} {os:List (Option Ob)},os.length=n→Ef n m cs=true→(∀(k:Nat) (p:Pos),L[k]?=some p→h.get p=((os[k]?).join).map (Ob.ren t))→
  (∀(k:Nat) (p:Pos),L[k]?=some p→(uT t L h cs).get p=(((patch os cs)[k]?).join).map (Ob.ren t))∧∀j,j∉L→(uT t L h cs).get j=h.get j
 | [],h,os,_,_,hg=>⟨hg,fun _ _=>rfl⟩
 |c::cs,h,os,ho,hi,hg=>by
  simp only [Ef,Bool.and_eq_true] at hi
  have hc:c.1<n:=by simpa [Nat.blt_eq] using hi.1.1
  have hlt:c.1<L.length:=by omega
  have hp:oV c.1 L=L[c.1]:=by rw [wR,List.getElem?_eq_getElem hlt];rfl
  obtain⟨a,b⟩:=I8 (t:=t) (m:=m) hn hd (cs:=cs) (h:=h.put (oV c.1 L) (am5 t c.2)) (os:=os.set c.1 c.2) (by rw [List.length_set];exact ho) hi.2 (fun k p hk=>by
   by_cases e:k=c.1
   ·subst e
    have:p=L[c.1]:=by rw [List.getElem?_eq_getElem hlt] at hk;exact(Option.some.inj hk).symm
    rw [hp,this,h.bC,List.getElem?_set_self (by omega),av1];rfl
   ·have hne:p≠L[c.1]:=fun q=>by
     exact e (FM hd hk (by rw [q];exact List.getElem?_eq_getElem hlt))
    rw [hp,h.aY hne,List.getElem?_set_ne (Ne.symm e)]
    exact hg k p hk)
  refine⟨a,fun j hj=>?_⟩
  rw [uT,b j hj,hp,h.aY fun q=>hj (by rw [q];exact List.getElem_mem hlt)]
theorem aB{f:FuncId}{F:Fun}{n:Nat}{a0:List V}{ks:List Ob}{cs:List (Nat×Option Ob)}{news:List Ob}{rc:V}(hF:aj P G f F)(hs:aK G n a0 ks cs news rc=true)
  (hD:Does P G f a0 (mkO G (ks.map some)) rc (mkO G (patch (ks.map some) cs++news.map some))):aj P G f (aS G a0 ks cs news rc F):=by
 intro args h r h' M w cargs e hr ha
 unfold aS at e
 split at e
 ·rename_i L hL
  have hk:=ayf hL
  unfold okC at hk
  simp only [Bool.and_eq_true] at hk
  obtain⟨⟨k1,k2⟩,k3,k4⟩:=hk
  have k1:=vS k1
  rw [UJ] at k1
  have k2:=FC k2
  have k3:=FN k3
  obtain⟨k4,k5⟩:=UM k4
  unfold aK at hs
  simp only [Bool.and_eq_true] at hs
  obtain⟨⟨s1,s2,s3⟩,s4,s5,s6⟩:=hs
  have s1:=Nat.eq_of_beq_eq_true s1
  have hLn:L.length=n:=by omega
  have hKn:(mkO G (ks.map some)).next.nat=G+n:=by rw [yF,List.length_map,s1]
  have hKcn:(mkO G (patch (ks.map some) cs++news.map some)).next.nat=G+n+news.length:=by rw [yF,List.length_append,nC,List.length_map,List.length_map,s1];omega
  have tat:∀i:Pos,G≤i.nat→i.nat<G+n→∃p,L[i.nat - G]?=some p∧tau G L i=p:=fun i h1 h2=>by
   have:i.nat - G<L.length:=by omega
   exact⟨_,List.getElem?_eq_getElem this,uO h1 (List.getElem?_eq_getElem this)⟩
  have hGh:∀g,g<G→g<h.next.nat:=fun g hg=>by
   rcases Nat.lt_or_ge g h.next.nat with q|q
   ·exact q
   ·obtain⟨n,hn⟩:=hr.gl g hg
    rw [hr.fresh (Pos.of g) (by rw [Pos.dm];exact q)] at hn;cases hn
  have S:Sub G (tau G L) (mkO G (ks.map some)) h:=by
   refine⟨fun i j hi hj e=>?_,fun i hi=>?_,fun i o hi=>?_,fun g hg=>⟨by omega,iL (by rw [Pos.dm];exact hg)⟩⟩
   ·rw [hKn] at hi hj
    rcases Nat.lt_or_ge i.nat G with x|x<;>rcases Nat.lt_or_ge j.nat G with y|y
    ·rw [iL x,iL y] at e;exact e
    ·obtain⟨q,hq,e2⟩:=tat j y hj
     rw [iL x,e2] at e
     have:=(k2 q (List.mem_of_getElem? hq)).1
     rw [←e] at this;omega
    ·obtain⟨q,hq,e2⟩:=tat i x hi
     rw [iL y,e2] at e
     have:=(k2 q (List.mem_of_getElem? hq)).1
     rw [e] at this;omega
    ·obtain⟨q,hq,e2⟩:=tat i x hi
     obtain⟨r,hr,e3⟩:=tat j y hj
     rw [e2,e3] at e
     subst e
     have:=FM k3 hq hr
     exact Pos.fU (by omega)
   ·rw [hKn] at hi
    rcases Nat.lt_or_ge i.nat G with x|x
    ·rw [iL x];exact hGh _ x
    ·obtain⟨q,hq,e2⟩:=tat i x hi
     rw [e2];exact(k2 q (List.mem_of_getElem? hq)).2
   ·rw [oC] at hi
    split at hi
    ·rename_i hG
     have hk:ks[i.nat - G]?=some o:=by
      rw [List.getElem?_map] at hi
      cases h:ks[i.nat - G]? with
      |none=>rw [h] at hi;cases hi
      |some y=>rw [h] at hi;exact hi
     have hlt:i.nat - G<ks.length:=(List.getElem?_eq_some_iff.1 hk).1
     obtain⟨q,hq,e2⟩:=tat i hG (by omega)
     exact⟨by omega,by rw [hKn];exact o5 s3 hk,by rw [e2];exact k5 _ _ _ hq hk⟩
    ·cases hi
  unfold avr at e
  simp only [] at e
  rw [YL,UI] at e
  obtain⟨t,ht⟩:∃t,t=tau G (L++succs h.next news):=⟨_,rfl⟩
  rw [←ht] at e
  cases e
  have hsig:∀i:Pos,i.nat<G+n+news.length→sig (tau G L) (mkO G (ks.map some)).next.nat h.next.nat i=t i:=fun i hi=>by
   rw [ht,hKn]
   rcases Nat.lt_or_ge i.nat (G+n) with x|x
   ·rw [zK x]
    rcases Nat.lt_or_ge i.nat G with y|y
    ·rw [iL y,iL y]
    ·obtain⟨q,hq,e2⟩:=tat i y x
     rw [e2,uO y (by rw [List.getElem?_append_left (by omega)];exact hq)]
   ·rw [zL x]
    have:(L++succs h.next news)[i.nat - G]?=some (Pos.of (h.next.nat+(i.nat - G - n))):=by
     rw [List.getElem?_append_right (by omega),hLn]
     exact Fp (by omega)
    rw [uO (by omega) this]
    congr 1;omega
  have hlow:∀i:Pos,i.nat<G+n→tau G L i=t i:=fun i hi=>by rw [←hsig i (by omega),zK (by rw [hKn];exact hi)]
  have c1:rc.ren t=rc.ren (sig (tau G L) (mkO G (ks.map some)).next.nat h.next.nat):=V.jD (n:=G+n+news.length) (fun i hi=>(hsig i hi).symm) s6
  have hput:=I8 (t:=t) (L:=L) (n:=n) (m:=G+n+news.length) hLn k3 (cs:=cs) (h:=h) (os:=ks.map some) (by rw [List.length_map];exact s1) s4 (fun k p hk=>by
   have hlt:k<ks.length:=by have:=(List.getElem?_eq_some_iff.1 hk).1;omega
   have hx:ks[k]?=some ks[k]:=List.getElem?_eq_getElem hlt
   rw [k5 k p _ hk hx,List.getElem?_map,hx]
   show _=some _
   rw [Ob.jD (n:=G+n) hlow (o5 s3 hx)])
  have ins_patch:∀(cs:List (Nat×Option Ob)) (os:List (Option Ob)),Ef n (G+n+news.length) cs=true→(∀(k:Nat) (o:Ob),os[k]?=some (some o)→o.ins (G+n+news.length)=true)→∀(k:Nat) (o:Ob),(patch os cs)[k]?=some (some o)→o.ins (G+n+news.length)=true:=by
   intro cs
   induction cs with
   |nil=>intro os _ h;exact h
   |cons c cs ih=>
    intro os hi hos
    simp only [Ef,Bool.and_eq_true] at hi
    refine ih (os.set c.1 c.2) hi.2 fun k o hk=>?_
    by_cases e:c.1=k
    ·rw [List.getElem?_set] at hk
     rw [if_pos e] at hk
     split at hk
     ·have h2:=hi.1.2
      cases hk2:c.2 with
      |none=>rw [hk2] at hk;cases hk
      |some x=>rw [hk2] at hk h2;cases hk;exact h2
     ·cases hk
    ·rw [List.getElem?_set_ne e] at hk;exact hos k o hk
  have insMono:∀{a b:Nat},a≤b→∀v:V,v.ins a=true→v.ins b=true:=by
   intro a b hab v
   have lt:∀i:Pos,Nat.blt i.nat a=true→Nat.blt i.nat b=true:=fun i hi=>by simp only [Nat.blt_eq] at*;omega
   induction v with
   |ptr i o=>exact lt i
   |slice i o m c=>exact lt i
   |map i=>exact lt i
   |func fn x y ihx ihy=>
    intro hi
    simp only [V.ins,Bool.and_eq_true] at hi⊢
    refine⟨?_,ihx hi.2.1,ihy hi.2.2⟩
    have h1:=hi.1
    cases fn<;>first|rfl|(simp only [kE,Nat.blt_eq] at h1⊢;omega)
   |iface t v ih=>exact ih
   |agg l ih=>exact ih
   |tuple l ih=>exact ih
   |cons x y ihx ihy=>
    intro hi
    simp only [V.ins,Bool.and_eq_true] at hi⊢
    exact⟨ihx hi.1,ihy hi.2⟩
   |_=>intro _;rfl
  have insMonoO:∀o:Ob,o.ins (G+n)=true→o.ins (G+n+news.length)=true:=by
   have hL:∀l:List V,insL (G+n) l=true→insL (G+n+news.length) l=true:=fun l=>by
    induction l with
    |nil=>intro _;rfl
    |cons v l ih=>intro h;simp only [insL,Bool.and_eq_true] at h⊢;exact⟨insMono (by omega) v h.1,ih h.2⟩
   have hE:∀l:List (V×V),kN (G+n) l=true→kN (G+n+news.length) l=true:=fun l=>by
    induction l with
    |nil=>intro _;rfl
    |cons v l ih=>intro h;simp only [kN,Bool.and_eq_true] at h⊢;exact⟨⟨insMono (by omega) _ h.1.1,insMono (by omega) _ h.1.2⟩,ih h.2⟩
   intro o
   cases o with
   |cells w cs=>exact hL cs
   |map es=>exact hE es
   |iter s n=>intro h;exact h
   |bytes cs=>exact hL cs
  have hpi:=ins_patch cs (ks.map some) s4 (fun k o hk=>by
   rw [List.getElem?_map] at hk
   cases h:ks[k]? with
   |none=>rw [h] at hk;cases hk
   |some y=>rw [h] at hk;cases hk;exact insMonoO _ (o5 s3 h))
  have gl:Glued (tau G L) (mkO G (ks.map some)) (mkO G (patch (ks.map some) cs++news.map some)) h (mkF (uT t L h cs) (news.map (Ob.ren t))):=by
   have hcongr:∀o:Option Ob,(∀x,o=some x→x.ins (G+n+news.length)=true)→o.map (Ob.ren t)=o.map (Ob.ren (sig (tau G L) (mkO G (ks.map some)).next.nat h.next.nat)):=fun o ho=>by
    cases o with
    |none=>rfl
    |some x=>show some _=some _;rw [Ob.jD (n:=G+n+news.length) (fun i hi=>(hsig i hi).symm) (ho x rfl)]
   refine⟨?_,fun i hi hne=>?_,fun i hi hi'=>?_,fun j hj hjr=>?_⟩
   ·rw [yG,kZ,List.length_map,hKn,hKcn];omega
   ·have hG:G≤i.nat:=by
     rcases Nat.lt_or_ge i.nat G with x|x
     ·exfalso;apply hne;rw [oC,if_neg (by omega)]
     ·exact x
    rw [hKn] at hi
    obtain⟨p,hp,e2⟩:=tat i hG hi
    have hpl:=(k2 p (List.mem_of_getElem? hp)).2
    rw [e2,wS,kZ,if_neg (by omega),hput.1 _ p hp,oC,if_pos hG,List.getElem?_append_left (by rw [nC,List.length_map,s1];omega)]
    refine hcongr _ fun x hx=>?_
    refine hpi (i.nat - G) x ?_
    cases h:(patch (ks.map some) cs)[i.nat - G]? with
    |none=>rw [h] at hx;cases hx
    |some y=>rw [h] at hx;cases y with
     |none=>cases hx
     |some y=>cases hx;rfl
   ·rw [hKn] at hi
    rw [hKcn] at hi'
    have hsn:(sig (tau G L) (mkO G (ks.map some)).next.nat h.next.nat i).nat=h.next.nat+(i.nat - (G+n)):=by rw [hKn,zL hi,Pos.dm];omega
    rw [wS,kZ,List.length_map,hsn,if_pos (by omega),oC,if_pos (by omega),List.getElem?_append_right (by rw [nC,List.length_map,s1];omega),nC,List.length_map,s1,
     List.getElem?_map,List.getElem?_map,show i.nat - G - n=h.next.nat+(i.nat - (G+n)) - h.next.nat by omega]
    have hlt:h.next.nat+(i.nat - (G+n)) - h.next.nat<news.length:=by omega
    rw [List.getElem?_eq_getElem hlt]
    show some _=some _
    have:=hcongr (some news[h.next.nat+(i.nat - (G+n)) - h.next.nat]) fun x hx=>by cases hx;exact o5 s5 (List.getElem?_eq_getElem hlt)
    exact this
   ·have hjL:j∉L:=fun hm=>by
     obtain⟨k,hk,e2⟩:=List.mem_iff_getElem.1 hm
     have hk2:L[k]?=some j:=by rw [List.getElem?_eq_getElem hk,e2]
     refine hj (Pos.of (G+k)) (by rw [Pos.dm,hKn];omega) ?_ (uO (by rw [Pos.dm];omega) (by rw [Pos.dm,Nat.add_sub_cancel_left];exact hk2))
     rw [oC,Pos.dm,if_pos (by omega),Nat.add_sub_cancel_left,List.getElem?_map,List.getElem?_eq_getElem (by omega:k<ks.length)]
     simp
    rw [yG,kZ,List.length_map] at hjr
    rw [wS,kZ,List.length_map,if_neg (by omega)]
    exact hput.2 j hjL
  rw [c1]
  rw [k1] at ha
  exact am7 hD S (by rw [hKn];exact s2) gl hr ha
 ·exact hF args h r h' M w cargs e hr ha
end
end Go.Vm
namespace Go.Vm
noncomputable section
variable{P:Program}{G:Nat}
theorem anm{ρ:Pos→Pos}(h:∀i,ρ i=i)(f:Fn):lT ρ f=f:=by
 cases f<;>first|rfl|(simp only [lT,h,Pos.dm])
theorem V.zQ{ρ:Pos→Pos}(h:∀i,ρ i=i)(v:V):v.ren ρ=v:=by
 induction v with
 |ptr i o=>simp only [V.ren,h]
 |slice i o n c=>simp only [V.ren,h]
 |map i=>simp only [V.ren,h]
 |func fn a b iha ihb=>simp only [V.ren,anm h,iha,ihb]
 |iface t v ih=>simp only [V.ren,ih]
 |agg l ih=>simp only [V.ren,ih]
 |tuple l ih=>simp only [V.ren,ih]
 |cons a b iha ihb=>simp only [V.ren,iha,ihb]
 |_=>rfl
end
end Go.Vm
