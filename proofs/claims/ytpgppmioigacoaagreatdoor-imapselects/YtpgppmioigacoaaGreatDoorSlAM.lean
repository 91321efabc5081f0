/- Part of the value machine, or of a walk by it: lemmas that the claim's last text uses. No conditions. -/
import Derived.Test.YtpgppmioigacoaaGreatDoorSlAL
import Derived.Test.YtpgppmioigacoaaGreatDoorSlAK
import Derived.Test.YtpgppmioigacoaaGreatDoorChecked
import Derived.KernelRfl
set_option linter.unusedVariables false
set_option linter.unusedSimpArgs false
set_option linter.unnecessarySimpa false
namespace Go.Vm
noncomputable section
variable{P:Program}{G:Nat}
def aJg:List Pos→Pos→List Pos
 | [],p=> [p]
 |q::l,p=>q::aJg l p
def aDa:List Pos→Nat
 | []=>0
 |_::l=>(aDa l).succ
def aIq(G:Nat)(i j:Pos)(L:List Pos):List Pos:=match Nat.beq i.nat (G+aDa L) with|true=>aJg L j|false=>L
def aHL(G:Nat)(p:V):V→List Pos→List Pos:=
 V.rec (motive:=fun _=>V→List Pos→List Pos) (fun _ _ L=>L) (fun _ _ _ L=>L) (fun _ _ L=>L)
  (fun i _ v L=>match v with| .ptr j _=>aIq G i j L|_=>L) (fun _ L=>L)
  (fun i _ _ _ v L=>match v with| .slice j _ _ _=>aIq G i j L|_=>L) (fun _ L=>L) (fun _ L=>L)
  (fun i v L=>match v with| .map j=>aIq G i j L|_=>L) (fun _ L=>L)
  (fun _ _ _ iha ihb v L=>match v with| .func _ c d=>ihb d (iha c L)|_=>L) (fun _ L=>L)
  (fun _ _ ih v L=>match v with| .iface _ u=>ih u L|_=>L) (fun _ L=>L)
  (fun _ ih v L=>match v with| .agg u=>ih u L|_=>L) (fun _ ih v L=>match v with| .tuple u=>ih u L|_=>L) (fun _ L=>L)
  (fun _ _ iha ihb v L=>match v with| .cons c d=>ihb d (iha c L)|_=>L) p
def apZ(G:Nat):List V→List V→List Pos→List Pos
 | [],_,L=>L
 |p::ps,vs,L=>(match vs with| []=>L|v::vs=>apZ G ps vs (aHL G p v L))
def aNI(G:Nat):List (V×V)→List (V×V)→List Pos→List Pos
 | [],_,L=>L
 |p::ps,vs,L=>(match vs with| []=>L|v::vs=>aNI G ps vs (aHL G p.2 v.2 (aHL G p.1 v.1 L)))
def aP7(G:Nat)(o q:Ob)(L:List Pos):List Pos:=match o with
 | .cells _ l=>(match q with| .cells _ k=>apZ G l k L|_=>L)
 | .map l=>(match q with| .map k=>aNI G l k L|_=>L)
 |_=>L
def aC4(G:Nat)(h:Hp):List Ob→Nat→List Pos→Option (List Pos)
 | [],_,L=>some L
 |o::ks,n,L=>(match Nat.blt n (aDa L) with
  |true=>(match h.get (aaS n L) with
   |some q=>(match aP7 G o q L with|L'=>(match avK q (o.ren (tau G L')) with|true=>aC4 G h ks n.succ L'|false=>none))
   |none=>none)
  |false=>none)
def apG(t:Pos→Pos):List V→List V
 | []=> []
 |v::l=>v.ren t::apG t l
theorem aAa(t:Pos→Pos):∀l:List V,apG t l=l.map (V.ren t)
 | []=>rfl
 |v::l=>by rw [apG,aAa t l];rfl
def aC3(p:Pos):List Pos→Bool
 | []=>false
 |q::l=>(match p.eq q with|true=>true|false=>aC3 p l)
theorem amU{p:Pos}:∀{l:List Pos},aC3 p l=false→p∉l
 | [],_,h=>by cases h
 |q::l,e,h=>by
  unfold aC3 at e
  split at e
  ·cases e
  ·rename_i hq
   rcases List.mem_cons.1 h with rfl|h
   ·rw [Pos.eq_iff.2 rfl] at hq;cases hq
   ·exact amU e h
def ae0:List Pos→Bool
 | []=>true
 |p::l=>(match aC3 p l with|true=>false|false=>ae0 l)
theorem arG:∀{l:List Pos},ae0 l=true→l.Nodup
 | [],_=>List.nodup_nil
 |p::l,h=>by
  unfold ae0 at h
  split at h
  ·cases h
  ·rename_i hm
   exact List.nodup_cons.2 ⟨amU hm,arG h⟩
theorem arF{l:List Pos}(h:l.Nodup){i j:Nat}{p:Pos}(hi:l[i]?=some p)(hj:l[j]?=some p):i=j:=by
 have h:=List.pairwise_iff_getElem.1 (List.nodup_iff_pairwise_ne.1 h)
 obtain⟨a,ha⟩:=List.getElem?_eq_some_iff.1 hi
 obtain⟨b,hb⟩:=List.getElem?_eq_some_iff.1 hj
 rcases Nat.lt_trichotomy i j with q|q|q
 ·exact absurd (ha.trans hb.symm) (h i j a b q)
 ·exact q
 ·exact absurd (hb.trans ha.symm) (h j i b a q)
def aeK(a b:Nat):List Pos→Bool
 | []=>true
 |p::l=>(Nat.ble a p.nat&&Nat.blt p.nat b)&&aeK a b l
theorem arz{a b:Nat}:∀{l:List Pos},aeK a b l=true→∀p∈l,a≤p.nat∧p.nat<b
 | [],_,p,h=>by cases h
 |q::l,e,p,h=>by
  simp only [aeK,Bool.and_eq_true] at e
  rcases List.mem_cons.1 h with rfl|h
  ·exact⟨Nat.le_of_ble_eq_true e.1.1,by simpa [Nat.blt_eq] using e.1.2⟩
  ·exact arz e.2 p h
def auV(t:Pos→Pos)(h:Hp):List Pos→List Ob→Bool
 | [],ks=>(match ks with| []=>true|_::_=>false)
 |p::l,ks=>(match ks with| []=>false|o::ks=>(match h.get p with|some q=>avK q (o.ren t)|none=>false)&&auV t h l ks)
theorem aAe{t:Pos→Pos}{h:Hp}:∀{l:List Pos} {ks:List Ob},auV t h l ks=true→l.length=ks.length∧∀(k:Nat) (p:Pos) (o:Ob),l[k]?=some p→ks[k]?=some o→h.get p=some (o.ren t)
 | [],[],_=>⟨rfl,fun k p o h=>by simp at h⟩
 | [],_::_,h=>by cases h
 |_::_,[],h=>by cases h
 |p::l,o::ks,e=>by
  simp only [auV,Bool.and_eq_true] at e
  obtain⟨a,b⟩:=aAe e.2
  refine⟨by simp [a],fun k q x hk hx=>?_⟩
  cases k with
  |zero=>
   simp at hk hx;subst hk;subst hx
   have e1:=e.1
   split at e1
   ·rename_i y hy;rw [hy,aAH e1]
   ·cases e1
  |succ k=>simp at hk hx;exact b k q x hk hx
def okC(G:Nat)(a0:List V)(ks:List Ob)(args:List V)(h:Hp)(L:List Pos):Bool:=
 (eqL args (apG (tau G L) a0)&&aeK G h.next.nat L)&&(ae0 L&&auV (tau G L) h L ks)
def avA(G:Nat)(a0:List V)(ks:List Ob)(args:List V)(h:Hp):Option (List Pos):=match apZ G a0 args [] with
 |L0=>(match eqL args (apG (tau G L0) a0) with
  |true=>(match aC4 G h ks 0 L0 with
   |some L=>(match okC G a0 ks args h L with|true=>some L|false=>none)
   |none=>none)
  |false=>none)
theorem aJ8{a0:List V}{ks:List Ob}{args:List V}{h:Hp}{L:List Pos}(e:avA G a0 ks args h=some L):okC G a0 ks args h L=true:=by
 unfold avA at e
 dsimp only at e
 split at e
 ·split at e
  ·split at e
   ·rename_i hk;cases e;exact hk
   ·cases e
  ·cases e
 ·cases e
def succs:Pos→List Ob→List Pos
 |_,[]=> []
 |p,_::l=>p::succs p.succ l
theorem aru:∀{l:List Ob} {p:Pos} {k:Nat},k<l.length→(succs p l)[k]?=some (Pos.of (p.nat+k))
 | [],_,_,h=>by cases h
 |_::l,p,0,_=>by simp only [succs,List.getElem?_cons_zero,Nat.add_zero,Pos.Uz]
 |_::l,p,k+1,h=>by
  simp only [succs,List.getElem?_cons_succ]
  rw [aru (by simpa using h),Pos.eY]
  congr 2;omega
def aDG:List Pos→List Pos→List Pos
 | [],m=>m
 |p::l,m=>p::aDG l m
theorem aAZ:∀l m:List Pos,aDG l m=l++m
 | [],_=>rfl
 |p::l,m=>by rw [aDG,aAZ l m];rfl
def patch:List (Option Ob)→List (Nat×Option Ob)→List (Option Ob)
 |os,[]=>os
 |os,c::cs=>patch (os.set c.1 c.2) cs
def aHN(t:Pos→Pos)(o:Option Ob):Option Ob:=match o with|some x=>some (x.ren t)|none=>none
theorem aJX(t:Pos→Pos)(o:Option Ob):aHN t o=o.map (Ob.ren t):=by cases o<;>rfl
def aeL(t:Pos→Pos)(L:List Pos):Hp→List (Nat×Option Ob)→Hp
 |h,[]=>h
 |h,c::cs=>aeL t L (h.put (aaS c.1 L) (aHN t c.2)) cs
def aCI(t:Pos→Pos):List Ob→List Ob
 | []=> []
 |o::l=>o.ren t::aCI t l
theorem az9(t:Pos→Pos):∀l:List Ob,aCI t l=l.map (Ob.ren t)
 | []=>rfl
 |v::l=>by rw [aCI,az9 t l];rfl
def aDi(G:Nat)(cs:List (Nat×Option Ob))(news:List Ob)(rc:V)(L:List Pos)(h:Hp):R V:=match tau G (aDG L (succs h.next news)) with
 |t=>.ok (rc.ren t) (mkF (aeL t L h cs) (aCI t news))
def aHP(G:Nat)(a0:List V)(ks:List Ob)(cs:List (Nat×Option Ob))(news:List Ob)(rc:V)(F:Fun):Fun:=fun args h=>match avA G a0 ks args h with
 |some L=>aDi G cs news rc L h
 |none=>F args h
def ap1(n:Nat):List Ob→Bool
 | []=>true
 |o::l=>o.ins n&&ap1 n l
theorem UI{n:Nat}:∀{l:List Ob} {k:Nat} {o:Ob},ap1 n l=true→l[k]?=some o→o.ins n=true
 | [],k,o,_,h=>by simp at h
 |x::l,0,o,h,e=>by
  simp only [ap1,Bool.and_eq_true] at h
  simp at e;subst e;exact h.1
 |x::l,k+1,o,h,e=>by
  simp only [ap1,Bool.and_eq_true] at h
  exact UI h.2 (by simpa using e)
def ap2(n m:Nat):List (Nat×Option Ob)→Bool
 | []=>true
 |c::cs=>(Nat.blt c.1 n&&(match c.2 with|some o=>o.ins m|none=>true))&&ap2 n m cs
def aCB(G n:Nat)(a0:List V)(ks:List Ob)(cs:List (Nat×Option Ob))(news:List Ob)(rc:V):Bool:=
 (Nat.beq ks.length n&&(insL (G+n) a0&&ap1 (G+n) ks))&&(ap2 n (G+n+news.length) cs&&(ap1 (G+n+news.length) news&&rc.ins (G+n+news.length)))
theorem Ol:∀{cs:List (Nat×Option Ob)} {os:List (Option Ob)},(patch os cs).length=os.length
 | [],_=>rfl
 |c::cs,os=>by rw [patch,Ol,List.length_set]
theorem Gl(t:Pos→Pos)(L:List Pos):∀(cs:List (Nat×Option Ob)) (h:Hp),(aeL t L h cs).next=h.next
 | [],_=>rfl
 |c::cs,h=>by rw [aeL,Gl t L cs];rfl
theorem auE{t:Pos→Pos}{L:List Pos}{n m:Nat}(hn:L.length=n)(hd:L.Nodup):∀{cs:List (Nat×Option Ob)} {h:Hp} {os:List (Option Ob)},os.length=n→ap2 n m cs=true→(∀(k:Nat) (p:Pos),L[k]?=some p→h.get p=((os[k]?).join).map (Ob.ren t))→
  (∀(k:Nat) (p:Pos),L[k]?=some p→(aeL t L h cs).get p=(((patch os cs)[k]?).join).map (Ob.ren t))∧∀j,j∉L→(aeL t L h cs).get j=h.get j
 | [],h,os,_,_,hg=>⟨hg,fun _ _=>rfl⟩
 |c::cs,h,os,ho,hi,hg=>by
  simp only [ap2,Bool.and_eq_true] at hi
  have hc:c.1<n:=by simpa [Nat.blt_eq] using hi.1.1
  have hlt:c.1<L.length:=by omega
  have hp:aaS c.1 L=L[c.1]:=by rw [apU,List.getElem?_eq_getElem hlt];rfl
  obtain⟨a,b⟩:=auE (t:=t) (m:=m) hn hd (cs:=cs) (h:=h.put (aaS c.1 L) (aHN t c.2)) (os:=os.set c.1 c.2) (by rw [List.length_set];exact ho) hi.2 (fun k p hk=>by
   by_cases e:k=c.1
   ·subst e
    have:p=L[c.1]:=by rw [List.getElem?_eq_getElem hlt] at hk;exact(Option.some.inj hk).symm
    rw [hp,this,h.dW,List.getElem?_set_self (by omega),aJX];rfl
   ·have hne:p≠L[c.1]:=fun q=>by
     exact e (arF hd hk (by rw [q];exact List.getElem?_eq_getElem hlt))
    rw [hp,h.cZ hne,List.getElem?_set_ne (Ne.symm e)]
    exact hg k p hk)
  refine⟨a,fun j hj=>?_⟩
  rw [aeL,b j hj,hp,h.cZ fun q=>hj (by rw [q];exact List.getElem_mem hlt)]
theorem aJZ{f:FuncId}{F:Fun}{n:Nat}{a0:List V}{ks:List Ob}{cs:List (Nat×Option Ob)}{news:List Ob}{rc:V}(hF:aJ P G f F)(hs:aCB G n a0 ks cs news rc=true)
  (hD:Does P G f a0 (mkO G (ks.map some)) rc (mkO G (patch (ks.map some) cs++news.map some))):aJ P G f (aHP G a0 ks cs news rc F):=by
 intro args h r h' M w cargs e hr ha
 unfold aHP at e
 split at e
 ·rename_i L hL
  have hk:=aJ8 hL
  unfold okC at hk
  simp only [Bool.and_eq_true] at hk
  obtain⟨⟨k1,k2⟩,k3,k4⟩:=hk
  have k1:=ane k1
  rw [aAa] at k1
  have k2:=arz k2
  have k3:=arG k3
  obtain⟨k4,k5⟩:=aAe k4
  unfold aCB at hs
  simp only [Bool.and_eq_true] at hs
  obtain⟨⟨s1,s2,s3⟩,s4,s5,s6⟩:=hs
  have s1:=Nat.eq_of_beq_eq_true s1
  have hLn:L.length=n:=by omega
  have hKn:(mkO G (ks.map some)).next.nat=G+n:=by rw [UF,List.length_map,s1]
  have hKcn:(mkO G (patch (ks.map some) cs++news.map some)).next.nat=G+n+news.length:=by rw [UF,List.length_append,Ol,List.length_map,List.length_map,s1];omega
  have tat:∀i:Pos,G≤i.nat→i.nat<G+n→∃p,L[i.nat - G]?=some p∧tau G L i=p:=fun i h1 h2=>by
   have:i.nat - G<L.length:=by omega
   exact⟨_,List.getElem?_eq_getElem this,aeA h1 (List.getElem?_eq_getElem this)⟩
  have hGh:∀g,g<G→g<h.next.nat:=fun g hg=>by
   rcases Nat.lt_or_ge g h.next.nat with q|q
   ·exact q
   ·obtain⟨n,hn⟩:=hr.gl g hg
    rw [hr.fresh (Pos.of g) (by rw [Pos.gU];exact q)] at hn;cases hn
  have S:Sub G (tau G L) (mkO G (ks.map some)) h:=by
   refine⟨fun i j hi hj e=>?_,fun i hi=>?_,fun i o hi=>?_,fun g hg=>⟨by omega,pX (by rw [Pos.gU];exact hg)⟩⟩
   ·rw [hKn] at hi hj
    rcases Nat.lt_or_ge i.nat G with x|x<;>rcases Nat.lt_or_ge j.nat G with y|y
    ·rw [pX x,pX y] at e;exact e
    ·obtain⟨q,hq,e2⟩:=tat j y hj
     rw [pX x,e2] at e
     have:=(k2 q (List.mem_of_getElem? hq)).1
     rw [←e] at this;omega
    ·obtain⟨q,hq,e2⟩:=tat i x hi
     rw [pX y,e2] at e
     have:=(k2 q (List.mem_of_getElem? hq)).1
     rw [e] at this;omega
    ·obtain⟨q,hq,e2⟩:=tat i x hi
     obtain⟨r,hr,e3⟩:=tat j y hj
     rw [e2,e3] at e
     subst e
     have:=arF k3 hq hr
     exact Pos.wu (by omega)
   ·rw [hKn] at hi
    rcases Nat.lt_or_ge i.nat G with x|x
    ·rw [pX x];exact hGh _ x
    ·obtain⟨q,hq,e2⟩:=tat i x hi
     rw [e2];exact(k2 q (List.mem_of_getElem? hq)).2
   ·rw [KA] at hi
    split at hi
    ·rename_i hG
     have hk:ks[i.nat - G]?=some o:=by
      rw [List.getElem?_map] at hi
      cases h:ks[i.nat - G]? with
      |none=>rw [h] at hi;cases hi
      |some y=>rw [h] at hi;exact hi
     have hlt:i.nat - G<ks.length:=(List.getElem?_eq_some_iff.1 hk).1
     obtain⟨q,hq,e2⟩:=tat i hG (by omega)
     exact⟨by omega,by rw [hKn];exact UI s3 hk,by rw [e2];exact k5 _ _ _ hq hk⟩
    ·cases hi
  unfold aDi at e
  simp only [] at e
  rw [aAZ,az9] at e
  obtain⟨t,ht⟩:∃t,t=tau G (L++succs h.next news):=⟨_,rfl⟩
  rw [←ht] at e
  cases e
  have hsig:∀i:Pos,i.nat<G+n+news.length→sig (tau G L) (mkO G (ks.map some)).next.nat h.next.nat i=t i:=fun i hi=>by
   rw [ht,hKn]
   rcases Nat.lt_or_ge i.nat (G+n) with x|x
   ·rw [aeH x]
    rcases Nat.lt_or_ge i.nat G with y|y
    ·rw [pX y,pX y]
    ·obtain⟨q,hq,e2⟩:=tat i y x
     rw [e2,aeA y (by rw [List.getElem?_append_left (by omega)];exact hq)]
   ·rw [amD x]
    have:(L++succs h.next news)[i.nat - G]?=some (Pos.of (h.next.nat+(i.nat - G - n))):=by
     rw [List.getElem?_append_right (by omega),hLn]
     exact aru (by omega)
    rw [aeA (by omega) this]
    congr 1;omega
  have hlow:∀i:Pos,i.nat<G+n→tau G L i=t i:=fun i hi=>by rw [←hsig i (by omega),aeH (by rw [hKn];exact hi)]
  have c1:rc.ren t=rc.ren (sig (tau G L) (mkO G (ks.map some)).next.nat h.next.nat):=V.tJ (n:=G+n+news.length) (fun i hi=>(hsig i hi).symm) s6
  have hput:=auE (t:=t) (L:=L) (n:=n) (m:=G+n+news.length) hLn k3 (cs:=cs) (h:=h) (os:=ks.map some) (by rw [List.length_map];exact s1) s4 (fun k p hk=>by
   have hlt:k<ks.length:=by have:=(List.getElem?_eq_some_iff.1 hk).1;omega
   have hx:ks[k]?=some ks[k]:=List.getElem?_eq_getElem hlt
   rw [k5 k p _ hk hx,List.getElem?_map,hx]
   show _=some _
   rw [Ob.tJ (n:=G+n) hlow (UI s3 hx)])
  have ins_patch:∀(cs:List (Nat×Option Ob)) (os:List (Option Ob)),ap2 n (G+n+news.length) cs=true→(∀(k:Nat) (o:Ob),os[k]?=some (some o)→o.ins (G+n+news.length)=true)→∀(k:Nat) (o:Ob),(patch os cs)[k]?=some (some o)→o.ins (G+n+news.length)=true:=by
   intro cs
   induction cs with
   |nil=>intro os _ h;exact h
   |cons c cs ih=>
    intro os hi hos
    simp only [ap2,Bool.and_eq_true] at hi
    refine ih (os.set c.1 c.2) hi.2 fun k o hk=>?_
    by_cases e:c.1=k
    ·rw [List.getElem?_set] at hk
     rw [if_pos e] at hk
     split at hk
     ·have h2:=hi.1.2
      cases hk2:c.2 with
      |none=>rw [hk2] at hk;cases hk
      |some x=>rw [hk2] at hk h2;cases hk;exact h2
     ·cases hk
    ·rw [List.getElem?_set_ne e] at hk;exact hos k o hk
  have insMono:∀{a b:Nat},a≤b→∀v:V,v.ins a=true→v.ins b=true:=by
   intro a b hab v
   have lt:∀i:Pos,Nat.blt i.nat a=true→Nat.blt i.nat b=true:=fun i hi=>by simp only [Nat.blt_eq] at*;omega
   induction v with
   |ptr i o=>exact lt i
   |slice i o m c=>exact lt i
   |map i=>exact lt i
   |func fn x y ihx ihy=>
    intro hi
    simp only [V.ins,Bool.and_eq_true] at hi⊢
    refine⟨?_,ihx hi.2.1,ihy hi.2.2⟩
    have h1:=hi.1
    cases fn<;>first|rfl|(simp only [ahQ,Nat.blt_eq] at h1⊢;omega)
   |iface t v ih=>exact ih
   |agg l ih=>exact ih
   |tuple l ih=>exact ih
   |cons x y ihx ihy=>
    intro hi
    simp only [V.ins,Bool.and_eq_true] at hi⊢
    exact⟨ihx hi.1,ihy hi.2⟩
   |_=>intro _;rfl
  have insMonoO:∀o:Ob,o.ins (G+n)=true→o.ins (G+n+news.length)=true:=by
   have hL:∀l:List V,insL (G+n) l=true→insL (G+n+news.length) l=true:=fun l=>by
    induction l with
    |nil=>intro _;rfl
    |cons v l ih=>intro h;simp only [insL,Bool.and_eq_true] at h⊢;exact⟨insMono (by omega) v h.1,ih h.2⟩
   have hE:∀l:List (V×V),aaX (G+n) l=true→aaX (G+n+news.length) l=true:=fun l=>by
    induction l with
    |nil=>intro _;rfl
    |cons v l ih=>intro h;simp only [aaX,Bool.and_eq_true] at h⊢;exact⟨⟨insMono (by omega) _ h.1.1,insMono (by omega) _ h.1.2⟩,ih h.2⟩
   intro o
   cases o with
   |cells w cs=>exact hL cs
   |map es=>exact hE es
   |iter s n=>intro h;exact h
   |bytes cs=>exact hL cs
  have hpi:=ins_patch cs (ks.map some) s4 (fun k o hk=>by
   rw [List.getElem?_map] at hk
   cases h:ks[k]? with
   |none=>rw [h] at hk;cases hk
   |some y=>rw [h] at hk;cases hk;exact insMonoO _ (UI s3 h))
  have gl:Glued (tau G L) (mkO G (ks.map some)) (mkO G (patch (ks.map some) cs++news.map some)) h (mkF (aeL t L h cs) (news.map (Ob.ren t))):=by
   have hcongr:∀o:Option Ob,(∀x,o=some x→x.ins (G+n+news.length)=true)→o.map (Ob.ren t)=o.map (Ob.ren (sig (tau G L) (mkO G (ks.map some)).next.nat h.next.nat)):=fun o ho=>by
    cases o with
    |none=>rfl
    |some x=>show some _=some _;rw [Ob.tJ (n:=G+n+news.length) (fun i hi=>(hsig i hi).symm) (ho x rfl)]
   refine⟨?_,fun i hi hne=>?_,fun i hi hi'=>?_,fun j hj hjr=>?_⟩
   ·rw [aky,Gl,List.length_map,hKn,hKcn];omega
   ·have hG:G≤i.nat:=by
     rcases Nat.lt_or_ge i.nat G with x|x
     ·exfalso;apply hne;rw [KA,if_neg (by omega)]
     ·exact x
    rw [hKn] at hi
    obtain⟨p,hp,e2⟩:=tat i hG hi
    have hpl:=(k2 p (List.mem_of_getElem? hp)).2
    rw [e2,ahN,Gl,if_neg (by omega),hput.1 _ p hp,KA,if_pos hG,List.getElem?_append_left (by rw [Ol,List.length_map,s1];omega)]
    refine hcongr _ fun x hx=>?_
    refine hpi (i.nat - G) x ?_
    cases h:(patch (ks.map some) cs)[i.nat - G]? with
    |none=>rw [h] at hx;cases hx
    |some y=>rw [h] at hx;cases y with
     |none=>cases hx
     |some y=>cases hx;rfl
   ·rw [hKn] at hi
    rw [hKcn] at hi'
    have hsn:(sig (tau G L) (mkO G (ks.map some)).next.nat h.next.nat i).nat=h.next.nat+(i.nat - (G+n)):=by rw [hKn,amD hi,Pos.gU];omega
    rw [ahN,Gl,List.length_map,hsn,if_pos (by omega),KA,if_pos (by omega),List.getElem?_append_right (by rw [Ol,List.length_map,s1];omega),Ol,List.length_map,s1,
     List.getElem?_map,List.getElem?_map,show i.nat - G - n=h.next.nat+(i.nat - (G+n)) - h.next.nat by omega]
    have hlt:h.next.nat+(i.nat - (G+n)) - h.next.nat<news.length:=by omega
    rw [List.getElem?_eq_getElem hlt]
    show some _=some _
    have:=hcongr (some news[h.next.nat+(i.nat - (G+n)) - h.next.nat]) fun x hx=>by cases hx;exact UI s5 (List.getElem?_eq_getElem hlt)
    exact this
   ·have hjL:j∉L:=fun hm=>by
     obtain⟨k,hk,e2⟩:=List.mem_iff_getElem.1 hm
     have hk2:L[k]?=some j:=by rw [List.getElem?_eq_getElem hk,e2]
     refine hj (Pos.of (G+k)) (by rw [Pos.gU,hKn];omega) ?_ (aeA (by rw [Pos.gU];omega) (by rw [Pos.gU,Nat.add_sub_cancel_left];exact hk2))
     rw [KA,Pos.gU,if_pos (by omega),Nat.add_sub_cancel_left,List.getElem?_map,List.getElem?_eq_getElem (by omega:k<ks.length)]
     simp
    rw [aky,Gl,List.length_map] at hjr
    rw [ahN,Gl,List.length_map,if_neg (by omega)]
    exact hput.2 j hjL
  rw [c1]
  rw [k1] at ha
  exact avn hD S (by rw [hKn];exact s2) gl hr ha
 ·exact hF args h r h' M w cargs e hr ha
end
end Go.Vm

namespace Go.Vm
noncomputable section
variable{P:Program}{G:Nat}
theorem aH7{ρ:Pos→Pos}(h:∀i,ρ i=i)(f:Fn):SK ρ f=f:=by
 cases f<;>first|rfl|(simp only [SK,h,Pos.gU])
theorem V.aEK{ρ:Pos→Pos}(h:∀i,ρ i=i)(v:V):v.ren ρ=v:=by
 induction v with
 |ptr i o=>simp only [V.ren,h]
 |slice i o n c=>simp only [V.ren,h]
 |map i=>simp only [V.ren,h]
 |func fn a b iha ihb=>simp only [V.ren,aH7 h,iha,ihb]
 |iface t v ih=>simp only [V.ren,ih]
 |agg l ih=>simp only [V.ren,ih]
 |tuple l ih=>simp only [V.ren,ih]
 |cons a b iha ihb=>simp only [V.ren,iha,ihb]
 |_=>rfl
def tH(A:List V→Option V)(F:Fun):Fun:=fun args h=>match A args with
 |some r=>.ok r h
 |none=>F args h
theorem qM{f:FuncId}{F:Fun}{A:List V→Option V}(hF:aJ P G f F)(hA:∀args r,A args=some r→insL G args=true∧D6 G G [] [] r (F args (mkO G []))=true):aJ P G f (tH A F):=by
 intro args h r h' M w cargs e hr ha
 unfold tH at e
 split at e
 ·rename_i r' hr'
  cases e
  obtain⟨a1,a2⟩:=hA _ _ hr'
  have hno:∀i,(mkO G []).get i=none:=fun i=>by rw [KA];split<;>rfl
  have hn:(mkO G []).next.nat=G:=by rw [UF];rfl
  have hD:=Does.comp hF hn a2
  have hrins:r.ins G=true:=by
   unfold D6 at a2
   split at a2
   ·simp only [Bool.and_eq_true] at a2;exact a2.1.2
   ·cases a2
  have hG:∀g,g<G→g<h.next.nat:=fun g hg=>by
   rcases Nat.lt_or_ge g h.next.nat with q|q
   ·exact q
   ·obtain⟨n,hn⟩:=hr.gl g hg
    rw [hr.fresh (Pos.of g) (by rw [Pos.gU];exact q)] at hn;cases hn
  have S:Sub G (fun i=>i) (mkO G []) h:=⟨fun i j _ _ e=>e,fun i hi=>by rw [hn] at hi;exact hG _ hi,(fun i o hi=>by rw [hno] at hi;cases hi),fun g hg=>⟨by omega,rfl⟩⟩
  have gl:Glued (fun i=>i) (mkO G []) (mkO G []) h h:=⟨by omega,fun i _ hne=>absurd (hno i) hne,fun i h1 h2=>by omega,fun j _ _=>rfl⟩
  have hc:=avn hD S (by rw [hn];exact a1) gl (M:=M) (w:=w) (cargs:=cargs) hr (by
   have:args.map (V.ren fun i=>i)=args:=by
    conv=>rhs;rw [←List.map_id args]
    exact List.map_congr_left fun v _=>V.aEK (fun _=>rfl) v
   rw [this];exact ha)
  have e2:r.ren (sig (fun i=>i) (mkO G []).next.nat h.next.nat)=r:=by
   rw [V.tJ (n:=G) (σ:=fun i=>i) (fun i hi=>aeH (by rw [hn];exact hi)) hrins]
   exact V.aEK (fun _=>rfl) r
  rw [e2] at hc
  exact hc
 ·exact hF args h r h' M w cargs e hr ha
end
end Go.Vm

namespace Go.Ln
open Go Go.Vm
inductive Wds where
 |nil
 |cons (kind:Int) (text:List Nat) (kids rest:Wds)
 deriving DecidableEq
def Wds.len:Wds→Nat
 | .nil=>0
 | .cons _ _ _ r=>r.len+1
structure Wd where
 kind:Int
 text:List Nat
 kids:Wds
structure St where
 cur:List Nat
 rest:List (List Nat×List Nat)
def St.size(s:St):Nat:=s.cur.length+(s.rest.map fun p=>p.2.length+1).sum
def iU(c:Nat):Bool:=decide (33≤c∧c≤126∧c≠40∧c≠41∧c≠34∧c≠123)
structure Rd where
 texts:List (List Nat):= []
 lits:List (List Nat):= []
 long:Nat:=0
 wide:Nat:=0
 now:List Nat:= []
 want:Nat:=0
 lit:List Nat:= []
 literal:Bool:=false
 skip:Nat:=0
 line:Bool:=false
structure Got where
 kind:Int
 words:Wds
def iT(t:List Nat):List Nat:=if t.getLast?=some 13 then t.dropLast else t
end Go.Ln

noncomputable section
namespace Go.Proofs.Im
open Go Go.Proofs Go.Vm
set_option maxRecDepth 100000
set_option maxHeartbeats 4000000
theorem aP:Tryz.prog.follows .mixedOrders=true:=Tryz.checked.mixed
def aN:Nat:=7
abbrev tB:TypeId:=5
abbrev tS:TypeId:=9
abbrev tW:TypeId:=149
abbrev tG:TypeId:=94
abbrev tP:TypeId:=336
abbrev tR:TypeId:=134
def axp:Fun:=avx
theorem aO0:aJ Tryz.prog aN 289 axp:=ap5 Tryz.func289 (by kernel_rfl) (by kernel_rfl) (by kernel_rfl) (by kernel_rfl)
def aw6:F→Hp→Out:=zz
def afJ:Fun:=bG Tryz.prog (kp [0,1,4]) Tryz.f107.ntmps [.tmp 4] aw6
theorem aO2:aJ Tryz.prog aN 107 afJ:=prX aP [0,1] [] bH Tryz.func107
def ak3:=rC 4 (.bool false)
def ak2(fr:F)(h:Hp):Out:=
 gtO (ge 0 fr) fun a=>aA (aY 1 a h) fun b c=>
 gtO (ge 1 fr) fun d=>aA (aY 1 d c) fun i j=>
 aA (aI .geq .none b i j) fun m n=>
 ifB m (aA (aY 1 a n) fun o p=>
 aA (aY 1 d p) fun q r=>
 aA (aI .sub .none o q r) fun s t=>
 aA (dZ a (some s) none t) fun u v=>
 aA (aI .eql .none u d v) fun w x=>
 Out.nor (ss 4 w fr) x) (Out.nor (ss 4 (.bool false) fr) n)
def anA:F→Hp→Out:=(aB ak3 (aB ak2 Out.ret))
def OL:Fun:=bG Tryz.prog (kp [0,1,4]) Tryz.f365.ntmps [.tmp 4] anA
theorem aGa(x0 x1:V)(h:Hp):OL [x0,x1] h=aT Tryz.prog [.tmp 4] (anA (ss 1 x1 (ss 0 x0 T.nil)) h):=by kernel_rfl
theorem anD:aJ Tryz.prog aN 365 OL:=prX aP [] [] bH Tryz.func365
def anz:F→Hp→Out:=zz
def UZ:Fun:=bG Tryz.prog (kp [0,1,4,5,9]) Tryz.f352.ntmps [.tmp 4,.tmp 5] anz
theorem axj:aJ Tryz.prog aN 352 UZ:=prX aP [0,1,2,3] [] bH Tryz.func352
def ale:=rC 4 (.str [])
def ald:=r2 7 0 1 fun a b h=>OL [a,b] h
def alc(fr:F)(h:Hp):Out:=
 gtO (ge 0 fr) fun a=>aA (aY 1 a h) fun b c=>
 gtO (ge 1 fr) fun d=>aA (aY 1 d c) fun i j=>
 aA (aI .sub .none b i j) fun m n=>
 aA (dZ a none (some m) n) fun o p=>
 Out.nor (ss 4 o fr) p
def alb:=rM 4 0
def anC:F→Hp→Out:=(aB ale (aB (aB ald (aV (.tmp 7) (aB alc Out.ret) Out.nor)) (aB alb Out.ret)))
def anM:Fun:=bG Tryz.prog (kp [0,1,4,7]) Tryz.f279.ntmps [.tmp 4] anC
theorem aGh(x0 x1:V)(h:Hp):anM [x0,x1] h=aT Tryz.prog [.tmp 4] (anC (ss 1 x1 (ss 0 x0 T.nil)) h):=by kernel_rfl
theorem aPb:aJ Tryz.prog aN 279 anM:=prX aP [] [] (aW anD bH) Tryz.func279
def awS:=rC 4 (.str [])
def awR:=r2 4 0 1 fun a b h=>anM [a,b] h
def axc:F→Hp→Out:=(aB awS (aB awR Out.ret))
def OO:Fun:=bG Tryz.prog (kp [0,1,4]) Tryz.f170.ntmps [.tmp 4] axc
theorem aGm(x0 x1:V)(h:Hp):OO [x0,x1] h=aT Tryz.prog [.tmp 4] (axc (ss 1 x1 (ss 0 x0 T.nil)) h):=by kernel_rfl
theorem anE:aJ Tryz.prog aN 170 OO:=prX aP [] [] (aW aPb bH) Tryz.func170
def Il:F→Hp→Out:=zz
def OM:Fun:=bG Tryz.prog (kp [0,2,3,4,5,6,7,8,9,22,38]) Tryz.f171.ntmps [.tmp 2,.tmp 3,.tmp 4,.tmp 5] Il
theorem axl:aJ Tryz.prog aN 171 OM:=prX aP [0,1,2,3,4,5,6,7,8,9] [] bH Tryz.func171
def aw8:F→Hp→Out:=zz
def Eo:Fun:=bG Tryz.prog (kp [0,2]) Tryz.f281.ntmps [.tmp 2] aw8
theorem afI:aJ Tryz.prog aN 281 Eo:=prX aP [0,1] [] bH Tryz.func281
def anw:F→Hp→Out:=zz
def Em:Fun:=bG Tryz.prog (kp [0,2]) Tryz.f425.ntmps [.tmp 2] anw
theorem aO4:aJ Tryz.prog aN 425 Em:=prX aP [0,1] [] bH Tryz.func425
def afG:F→Hp→Out:=zz
def jg:Fun:=bG Tryz.prog (kp [0,1,4,5,15]) Tryz.f367.ntmps [.tmp 4] afG
theorem aFM:aJ Tryz.prog aN 367 jg:=prX aP [0,1,2,3,4,5] [] bH Tryz.func367
def yc:F→Hp→Out:=zz
def aw7:F→Hp→Out:=zz
def afK:Fun:=bG Tryz.prog (kp [0,2,3,4,5,6,10,26,31,34,49]) Tryz.f426.ntmps [.tmp 2,.tmp 3] aw7
theorem aO3:aJ Tryz.prog aN 426 afK:=prX aP [0,1,2,3,5,6,8,9,10,11,12,13,14,15,16,7,4,17] [] bH Tryz.func426
def aFH:Nat→Bool:=fun t=>FN t [0,1,4,5,6,7,8,9,10,11,12,13,14,39,50,54,58,99]
def vN(V36:Fun)(fr:F)(h:Hp):Out:=
 aA (fC 149 [(.int .i64 0),(.str []),.aG] h) fun a b=>
 Out.nor (ss 5 (.bool false) (ss 4 a fr)) b
def vM(V36:Fun)(fr:F)(h:Hp):Out:=
 gtO (ge 0 fr) fun a=>aA (Em [a] h) fun b c=>
 Out.nor (ss 14 b fr) c
def awx(V36:Fun)(fr:F)(h:Hp):Out:=
 gtO (ge 0 fr) fun a=>aA (aK a (aH 1 h)) fun b _=>
 aA (aC 1 b (aH 1 h)) fun c _=>
 aA (aF c (aH 1 h)) fun d _=>
 gtO (ge 0 fr) fun i=>aA (aK i (aH 1 h)) fun j _=>
 aA (aC 2 j (aH 1 h)) fun m _=>
 aA (aF m (aH 1 h)) fun n _=>
 aA (bU 1 d n (aH 1 h)) fun o _=>
 aA (aF o (aH 1 h)) fun p _=>
 aA (bK [(.int .i64 0),(.str []),.aG] [(0,1,(.int .i64 2)),(1,1,p)] (aH 1 h)) fun q _=>
 FT (aqo 149 [(.int .i64 0),(.str []),.aG]) fun ob11 mk11=>
 aA (aO 3 (mk11 (Hp.next h)) q (Hp.put (aH 1 h) (Hp.next h) (some ob11))) fun _ r=>
 Out.nor (ss 6 (mk11 (Hp.next h)) fr) r
def aww(V36:Fun)(fr:F)(h:Hp):Out:=
 gtO (ge 0 fr) fun a=>aA (aK a h) fun b c=>
 aA (aC 2 b c) fun d i=>
 aA (aF d i) fun j m=>
 aA (aI .add .none j (.int .i64 1) m) fun n o=>
 aA (aK a o) fun p q=>
 aA (aC 2 p q) fun r s=>
 aA (aO 1 r n s) fun _ t=>
 Out.nor fr t
def awv(V36:Fun)(fr:F)(h:Hp):Out:=
 gtO (ge 0 fr) fun a=>aA (aK a h) fun b c=>
 aA (aC 3 b c) fun d i=>
 aA (aO 1 d (.int .i64 0) i) fun _ j=>
 Out.nor fr j
def awu(V36:Fun)(fr:F)(h:Hp):Out:=
 gtO (ge 6 fr) fun a=>aA (bW 3 a h) fun b c=>
 gtO (ge 4 fr) fun d=>aA (aO 3 d b c) fun _ i=>
 Out.nor (ss 5 (.bool true) fr) i
def xR(V36:Fun)(fr:F)(h:Hp):Out:=
 gtO (ge 0 fr) fun a=>aA (jg [a,(.int .u8 34)] h) fun b c=>
 Out.nor (ss 39 b fr) c
def akW(V36:Fun)(fr:F)(h:Hp):Out:=
 gtO (ge 0 fr) fun a=>aA (afK [a] h) fun b c=>
 aA (bJ 0 b c) fun d i=>
 aA (bJ 1 b i) fun j m=>
 Out.nor (ss 8 j (ss 7 d fr)) m
def akV(V36:Fun)(fr:F)(h:Hp):Out:=
 gtO (ge 7 fr) fun a=>aA (bK [(.int .i64 0),(.str []),.aG] [(0,1,(.int .i64 2)),(1,1,a)] h) fun b c=>
 gtO (ge 8 fr) fun d=>gtO (ge 4 fr) fun i=>aA (aO 3 i b c) fun _ j=>
 Out.nor (ss 5 d fr) j
def FU(V36:Fun)(fr:F)(h:Hp):Out:=
 gtO (ge 0 fr) fun a=>aA (jg [a,(.int .u8 40)] h) fun b c=>
 Out.nor (ss 50 b fr) c
def Gz(V36:Fun)(fr:F)(h:Hp):Out:=
 gtO (ge 1 fr) fun a=>aA (aI .geq .none a (.int .i64 8) h) fun b c=>
 Out.nor (ss 54 b fr) c
def ar9(V36:Fun)(fr:F)(h:Hp):Out:=
 aA (bK [(.int .i64 0),(.str []),.aG] [] h) fun a b=>
 gtO (ge 4 fr) fun c=>aA (aO 3 c a b) fun _ d=>
 Out.nor (ss 5 (.bool false) fr) d
def Oy(V36:Fun)(fr:F)(h:Hp):Out:=
 aA (bK [(.int .i64 0),(.str []),.aG] [(0,1,(.int .i64 3))] h) fun a b=>
 aA (fC 149 [(.int .i64 0),(.str []),.aG] b) fun c d=>
 aA (aO 3 c a d) fun _ i=>
 Out.nor (ss 9 c fr) i
def Ox(V36:Fun)(fr:F)(h:Hp):Out:=
 gtO (ge 0 fr) fun a=>aA (jg [a,(.int .u8 41)] h) fun b c=>
 Out.nor (ss 58 b fr) c
def ar8(V36:Fun)(fr:F)(h:Hp):Out:=
 gtO (ge 9 fr) fun a=>aA (bW 3 a h) fun b c=>
 gtO (ge 4 fr) fun d=>aA (aO 3 d b c) fun _ i=>
 Out.nor (ss 5 (.bool true) fr) i
def WZ(V36:Fun)(fr:F)(h:Hp):Out:=
 gtO (ge 0 fr) fun a=>gtO (ge 1 fr) fun b=>aA (aI .add .none b (.int .i64 1) h) fun c d=>
 aA (V36 [a,c] d) fun i j=>
 aA (bJ 0 i j) fun m n=>
 aA (bJ 1 i n) fun o p=>
 Out.nor (ss 11 o (ss 10 m fr)) p
def WY(V36:Fun)(fr:F)(h:Hp):Out:=
 gtO (ge 10 fr) fun a=>gtO (ge 9 fr) fun b=>aA (aC 2 b h) fun c d=>
 aA (aO 1 c a d) fun _ i=>
 Out.nor fr i
def WX(V36:Fun)(fr:F)(h:Hp):Out:=
 gtO (ge 11 fr) fun a=>ifB a (gtO (ge 0 fr) fun b=>aA (jg [b,(.int .u8 41)] (aH 0 h)) fun c d=>
 gtO (ge 9 fr) fun i=>aA (bW 3 i d) fun j _=>chk (fun h=>bW 3 i h) j (
 gtO (ge 4 fr) fun m=>aA (aO 3 m j d) fun _ n=>
 Out.nor (ss 5 c fr) n) 1 [(aH 0 h)]) (gtO (ge 9 fr) fun i=>aA (bW 3 i (aH 0 h)) fun j _=>chk (fun h=>bW 3 i h) j (
 gtO (ge 4 fr) fun m=>aA (aO 3 m j (aH 0 h)) fun _ n=>
 Out.nor (ss 5 (.bool false) fr) n) 1 [(aH 0 h)])
def aft(V36:Fun)(fr:F)(h:Hp):Out:=
 gtO (ge 0 fr) fun a=>aA (Eo [a] h) fun b c=>
 Out.nor (ss 12 b fr) c
def afs(V36:Fun)(fr:F)(h:Hp):Out:=
 Out.nor (ss 13 (.int .i64 0) fr) h
def Gy(V36:Fun)(fr:F)(h:Hp):Out:=
 gtO (ge 13 fr) fun a=>gtO (ge 12 fr) fun b=>aA (aY 1 b h) fun c d=>
 aA (aI .lss .none a c d) fun i j=>
 ifB i (aA (dG b a j) fun m n=>
 aA (aI .geq .none m (.int .u8 33) n) fun o p=>
 ifB o (aA (dG b a p) fun q r=>
 aA (aI .leq .none q (.int .u8 126) r) fun s t=>
 ifB s (aA (dG b a t) fun u v=>
 aA (afJ [(.str [40,41,34,123]),u] v) fun w x=>
 aA (aI .lss .none w (.int .i64 0) x) fun y z=>
 Out.nor (ss 99 y fr) z) (Out.nor (ss 99 (.bool false) fr) t)) (Out.nor (ss 99 (.bool false) fr) p)) (Out.nor (ss 99 (.bool false) fr) j)
def Gx(V36:Fun)(fr:F)(h:Hp):Out:=
 gtO (ge 13 fr) fun a=>aA (aI .add .none a (.int .i64 1) h) fun b c=>
 Out.nor (ss 13 b fr) c
def afr(V36:Fun)(fr:F)(h:Hp):Out:=
 gtO (ge 0 fr) fun a=>aA (aK a h) fun b c=>
 aA (aC 3 b c) fun d i=>
 aA (aF d i) fun j m=>
 gtO (ge 13 fr) fun n=>aA (aI .add .none j n m) fun o p=>
 aA (aK a p) fun q r=>
 aA (aC 3 q r) fun s t=>
 aA (aO 1 s o t) fun _ u=>
 Out.nor fr u
def afq(V36:Fun)(fr:F)(h:Hp):Out:=
 gtO (ge 12 fr) fun a=>gtO (ge 13 fr) fun b=>aA (dZ a none (some b) h) fun c d=>
 aA (bK [(.int .i64 0),(.str []),.aG] [(0,1,(.int .i64 1)),(1,1,c)] d) fun i j=>
 aA (aI .gtr .none b (.int .i64 0) j) fun m n=>
 gtO (ge 4 fr) fun o=>aA (aO 3 o i n) fun _ p=>
 Out.nor (ss 5 m fr) p
def BJ(V36:Fun):F→Hp→Out:=(aB (aB (Gy V36) (aV (.tmp 99) Out.nor (Out.ex 1))) (bP 2 (Gx V36)))
def pY(V36:Fun):F→Hp→Out:=(aB (vN V36) (aB (bP 0 (aB (vM V36) (aV (.tmp 14) (aB (awx V36) (aB (aww V36) (aB (awv V36) (aB (awu V36) Out.ret)))) (aB (xR V36) (aV (.tmp 39) (aB (akW V36) (aB (akV V36) Out.ret)) (aB (FU V36) (aV (.tmp 50) (aB (aB (Gz V36) (aV (.tmp 54) (aB (ar9 V36) Out.ret) Out.nor)) (aB (Oy V36) (aB (aB (Ox V36) (aV (.tmp 58) (aB (ar8 V36) Out.ret) Out.nor)) (aB (WZ V36) (aB (WY V36) (aB (WX V36) Out.ret)))))) Out.nor))))))) (aB (aft V36) (aB (afs V36) (aB (bP 1 (dI (BJ V36) lf)) (aB (afr V36) (aB (afq V36) Out.ret)))))))
def aFJ(V36:Fun):FuncId→Option Fun:=fun f=>match Nat.beq f 425 with|true=>some Em|false=>match Nat.beq f 367 with|true=>some jg|false=>match Nat.beq f 426 with|true=>some afK|false=>match Nat.beq f 280 with|true=>some V36|false=>match Nat.beq f 281 with|true=>some Eo|false=>match Nat.beq f 107 with|true=>some afJ|false=>none
def aFF:cO:=fun id=>match Nat.beq id 2 with|true=>some ([0,1,3,7,0,16,48,112,255,511,1023,0,4095],[(0,.pure),(1,.pure),(2,.pure),(3,.read 0),(4,.pure),(5,.pure),(6,.pure),(7,.read 0),(8,.pure),(9,.read 0),(10,.pure),(11,.alloc),(12,.heavy)])|false=>match Nat.beq id 17 with|true=>some ([0,0,2,6,14,30,31,127],[(1,.pure),(2,.pure),(3,.pure),(4,.heavy),(0,.read 1),(6,.heavy),(5,.pure),(7,.pure)])|false=>none
def anI(V36:Fun):Fun:=dU Tryz.prog aN aFH (aFJ V36) aFF lf Tryz.f366
theorem aPi(V36:Fun):lS Tryz.prog aN Tryz.f366.ntmps aFH (aFJ V36) aFF lf (codeOf Tryz.f366)=(pY V36):=by kernel_rfl
theorem aF7(V36:Fun)(x0 x1:V)(h:Hp):(anI V36) [x0,x1] h=aT Tryz.prog [.cell 4 149,.tmp 5] ((pY V36) (T.set (some x1) (Pos.of 1) (T.set (some x0) (Pos.of 0) T.nil)) h):=aAC (by kernel_rfl) (aPi V36) (by kernel_rfl) h
theorem aO5(V36:Fun)(H36:aJ Tryz.prog aN 280 V36):aJ Tryz.prog aN 366 (anI V36):=bV aP (aS aO4 (aS aFM (aS aO3 (aS H36 (aS afI (aS aO2 bC)))))) Tryz.func366 (by kernel_rfl)
def aFI:Nat→Bool:=fun t=>FN t [0,1,4,5,6,7,8,16,23]
def awJ(V44:Fun)(fr:F)(h:Hp):Out:=
 Out.nor (ss 5 (.bool false) (ss 4 .aG fr)) h
def awI(V44:Fun)(fr:F)(h:Hp):Out:=
 Out.nor (ss 6 .aG fr) h
def abu(V44:Fun)(fr:F)(h:Hp):Out:=
 gtO (ge 0 fr) fun a=>gtO (ge 1 fr) fun b=>aA (V44 [a,b] h) fun c d=>
 aA (bJ 0 c d) fun i j=>
 aA (bJ 1 c j) fun m n=>
 aA (fC 149 [(.int .i64 0),(.str []),.aG] n) fun o p=>
 aA (aO 3 o i p) fun _ q=>
 Out.nor (ss 8 m (ss 7 o fr)) q
def abt(V44:Fun)(fr:F)(h:Hp):Out:=
 gtO (ge 8 fr) fun a=>aA (oUn .not a h) fun b c=>
 Out.nor (ss 16 b fr) c
def awH(V44:Fun)(fr:F)(h:Hp):Out:=
 Out.nor (ss 5 (.bool false) (ss 4 .aG fr)) h
def ak6(V44:Fun)(fr:F)(h:Hp):Out:=
 gtO (ge 6 fr) fun a=>gtO (ge 7 fr) fun b=>aA (bW 3 b h) fun c d=>
 aA (bI 149 [(.int .i64 0),(.str []),.aG] 1 [(0,3,c)] d) fun i j=>
 aA (bT 149 3 48 a i j) fun m n=>
 Out.nor (ss 6 m fr) n
def ak5(V44:Fun)(fr:F)(h:Hp):Out:=
 gtO (ge 0 fr) fun a=>aA (jg [a,(.int .u8 32)] h) fun b c=>
 aA (oUn .not b c) fun d i=>
 Out.nor (ss 23 d fr) i
def ak4(V44:Fun)(fr:F)(h:Hp):Out:=
 gtO (ge 6 fr) fun a=>Out.nor (ss 5 (.bool true) (ss 4 a fr)) h
def abC(V44:Fun):F→Hp→Out:=(bP 1 (aB (abu V44) (aB (aB (abt V44) (aV (.tmp 16) (aB (awH V44) Out.ret) Out.nor)) (aB (ak6 V44) (aB (ak5 V44) (aV (.tmp 23) (aB (ak4 V44) Out.ret) Out.nor))))))
def aw9(V44:Fun):F→Hp→Out:=(aB (awJ V44) (aB (awI V44) (bP 0 (dI (abC V44) lf))))
def aFK(V44:Fun):FuncId→Option Fun:=fun f=>match Nat.beq f 366 with|true=>some V44|false=>match Nat.beq f 367 with|true=>some jg|false=>none
def aFG:cO:=fun id=>none
def Zt(V44:Fun):Fun:=dU Tryz.prog aN aFI (aFK V44) aFG lf Tryz.f280
theorem aPj(V44:Fun):lS Tryz.prog aN Tryz.f280.ntmps aFI (aFK V44) aFG lf (codeOf Tryz.f280)=(aw9 V44):=by kernel_rfl
theorem aGd(V44:Fun)(x0 x1:V)(h:Hp):(Zt V44) [x0,x1] h=aT Tryz.prog [.tmp 4,.tmp 5] ((aw9 V44) (T.set (some x1) (Pos.of 1) (T.set (some x0) (Pos.of 0) T.nil)) h):=aAC (by kernel_rfl) (aPj V44) (by kernel_rfl) h
theorem aFN(V44:Fun)(H44:aJ Tryz.prog aN 366 V44):aJ Tryz.prog aN 280 (Zt V44):=bV aP (aS H44 (aS aFM bC)) Tryz.func280 (by kernel_rfl)
def axn:Nat→Fun
 |0=>fun _ _=>.bad
 |n+1=>anI (Zt (axn n))
theorem aBe:∀n,aJ Tryz.prog aN 366 (axn n)
 |0=>fun _ _ _ _ _ _ _ e=>by cases e
 |n+1=>aO5 _ (aFN _ (aBe n))
def aqv:Fun:=Zt (axn 20)
theorem aMA:aJ Tryz.prog aN 280 aqv:=aFN _ (aBe 20)
def abD:F→Hp→Out:=zz
def axb:F→Hp→Out:=zz
def U2:Fun:=bG Tryz.prog (kp [0,1,4,5,6,7,8,9,10,12,13,14,45]) Tryz.f172.ntmps [.tmp 4,.tmp 5] axb
theorem axk:aJ Tryz.prog aN 172 U2:=prX aP [0,1,2,3,4,5,6,7,8,9,10] [] bH Tryz.func172
def axf:F→Hp→Out:=zz
def U5:Fun:=bG Tryz.prog (kp [0,2]) Tryz.f40.ntmps [.tmp 2] axf
theorem axm:aJ Tryz.prog aN 40 U5:=prX aP [0,1] [] bH Tryz.func40
end Go.Proofs.Im

noncomputable section
namespace Go.Ln
open Go Go.Vm Go.Proofs.Im
def Wds.app:Wds→Wds→Wds
 | .nil,b=>b
 | .cons k t ks r,b=>.cons k t ks (r.app b)
def WAt(P:Pos→Prop)(h:Hp):Wds→List V→Prop
 | .nil,cs=>cs= []
 | .cons k t ks r,cs=>∃vk ck cr,cs= [.int .i64 k,.str t,vk]++cr∧Ow 0 h tW 3 vk ks.len ck∧(∀j,aX vk=some j→P j)∧WAt P h ks ck∧WAt P h r cr
def jI(P:Pos→Prop)(h:Hp)(v:V)(ws:Wds):Prop:=∃cs,Ow 0 h tW 3 v ws.len cs∧(∀j,aX v=some j→P j)∧WAt P h ws cs
theorem WAt.ch{P P' S:Pos→Prop}{h h':Hp}(c:Ch S h h')(hs:∀j:Pos,j.nat<h.next.nat→P j→P' j∧¬S j):∀{ws:Wds} {cs:List V},WAt P h ws cs→WAt P' h' ws cs
 | .nil,_,w=>w
 | .cons k t ks r,_,⟨vk,ck,cr,e,o,p,a,b⟩=>⟨vk,ck,cr,e,o.ch c fun j hj=>(hs j (o.dN hj).2 (p j hj)).2,fun j hj=>(hs j (o.dN hj).2 (p j hj)).1,WAt.ch c hs a,WAt.ch c hs b⟩
theorem jI.ch{P P' S:Pos→Prop}{h h':Hp}{v:V}{ws:Wds}(w:jI P h v ws)(c:Ch S h h')(hs:∀j:Pos,j.nat<h.next.nat→P j→P' j∧¬S j):jI P' h' v ws:=by
 obtain⟨cs,o,p,a⟩:=w
 exact⟨cs,o.ch c fun j hj=>(hs j (o.dN hj).2 (p j hj)).2,fun j hj=>(hs j (o.dN hj).2 (p j hj)).1,a.ch c hs⟩
end Go.Ln
namespace Go.Vm
end Go.Vm

noncomputable section
namespace Go.Proofs.Im
open Go Go.Proofs Go.Vm Go.Ln
set_option maxRecDepth 100000
theorem as1{s:List Nat}{c:Nat}:s.drop (s.length - 1)= [c]↔s.getLast?=some c:=by
 cases hs:s with
 |nil=>simp
 |cons a l=>
  have hne:(a::l)≠ []:=by simp
  rw [List.getLast?_eq_some_getLast hne]
  have:(a::l).drop ((a::l).length - 1)= [(a::l).getLast hne]:=by
   conv=>lhs;rw [←List.dropLast_concat_getLast hne]
   rw [List.drop_left' (by simp)]
  rw [this]
  simp
theorem WI{s:List Nat}{c:Nat}(hl:s.length<4611686018427387904)(h:Hp):OL [.str s,.str [c]] h=.ok (.bool (decide (s.getLast?=some c))) h:=by
 rw [aGa]
 by_cases hs:s.length≥1
 ·have h1:(s.length:Int)≥1:=by omega
  have e:dZ (.str s) (some (.int .i64 ((s.length:Int) - 1))) none h=.ok (.str (s.drop (s.length - 1))) h:=by
   rw [show(s.length:Int) - 1=((s.length - 1:Nat):Int) by omega]
   exact wo (by omega)
  have hz:((1:Nat):Int)=1:=rfl
  simp (disch:=omega) only [vvA,Nat.reduceEqDiff,reduceCtorEq,↓reduceIte,anA,ak3,ak2,List.length_cons,List.length_nil,hz,h1,e,aT,bD,bF,as1]
 ·have:s= []:=List.length_eq_zero_iff.1 (by omega)
  subst this
  have hz:((1:Nat):Int)=1:=rfl
  have hz0:((0:Nat):Int)=0:=rfl
  have hno:¬((0:Int)≥1):=by omega
  simp (disch:=omega) only [vvA,Nat.reduceEqDiff,reduceCtorEq,↓reduceIte,anA,ak3,ak2,List.length_cons,List.length_nil,hz,hz0,hno,aT,bD,bF,List.getLast?_nil,reduceCtorEq]
theorem YW{s:List Nat}(hl:1≤s.length)(h:Hp):dZ (.str s) none (some (.int .i64 ((s.length:Int) - 1))) h=.ok (.str s.dropLast) h:=by
 rw [show(s.length:Int) - 1=((s.length - 1:Nat):Int) by omega,List.dropLast_eq_take]
 exact vZ (by omega)
theorem azZ{s:List Nat}(hl:s.length<4611686018427387904)(h:Hp):OO [.str s,.str [13]] h=.ok (.str (iT s)) h:=by
 have e32:anM [.str s,.str [13]] h=.ok (.str (iT s)) h:=by
  rw [aGh]
  have hz:((1:Nat):Int)=1:=rfl
  by_cases hs:s.getLast?=some 13
  ·have hpos:1≤s.length:=by cases s with|nil=>simp at hs|cons a l=>simp
   simp (disch:=omega) only [vvA,Nat.reduceEqDiff,reduceCtorEq,↓reduceIte,anC,ale,ald,alc,alb,WI hl,hs,List.length_cons,List.length_nil,hz,YW hpos,aT,bD,bF,iT,if_true]
  ·simp (disch:=omega) only [vvA,Nat.reduceEqDiff,reduceCtorEq,↓reduceIte,anC,ale,ald,alc,alb,WI hl,hs,aT,bD,bF,iT,if_false]
 rw [aGm]
 simp only [vvA,Nat.reduceEqDiff,reduceCtorEq,↓reduceIte,axc,awS,awR,e32,aT,bD,bF]
end Go.Proofs.Im

noncomputable section
namespace Go.Vm
structure Stp (S:Pos→Prop) (h:Hp) (S':Pos→Prop) (h':Hp):Prop where
 ch:Ch S h h'
 sub:∀j,S' j→S j∨h.next.nat≤j.nat
theorem Stp.refl(S:Pos→Prop)(h:Hp):Stp S h S h:=⟨Ch.refl _ _,fun _ q=>.inl q⟩
theorem Stp.trans{S S1 S2:Pos→Prop}{h h1 h2:Hp}(x:Stp S h S1 h1)(y:Stp S1 h1 S2 h2):Stp S h S2 h2:=
 ⟨x.ch.trans y.ch fun j hj q=>(x.sub j q).resolve_right (by omega),fun j q=>(y.sub j q).elim (fun q=>x.sub j q) fun q=>.inr (Nat.le_trans x.ch.next q)⟩
theorem Stp.step{S S1 C:Pos→Prop}{h h1 h2:Hp}(x:Stp S h S1 h1)(c:Ch C h1 h2)(hc:∀j,C j→S1 j):Stp S h S1 h2:=x.trans ⟨c.mono fun j _ q=>hc j q,fun _ q=>.inl q⟩
end Go.Vm
namespace Go.Proofs.Im
open Go Go.Proofs Go.Vm Go.Ln
set_option maxRecDepth 100000
end Go.Proofs.Im

noncomputable section
namespace Go.Proofs.Im
open Go Go.Proofs Go.Vm Go.Ln
set_option maxRecDepth 100000
def GAt(P:Pos→Prop)(h:Hp):List Ln.Got→List V→Prop
 | [],cs=>cs= []
 |g::l,cs=>∃vw cr,cs= [.int .i64 g.kind,vw]++cr∧jI P h vw g.words∧GAt P h l cr
theorem GAt.ch{P P' S:Pos→Prop}{h h':Hp}(c:Ch S h h')(hs:∀j:Pos,j.nat<h.next.nat→P j→P' j∧¬S j):∀{l:List Ln.Got} {cs:List V},GAt P h l cs→GAt P' h' l cs
 | [],_,w=>w
 |g::l,_,⟨vw,cr,e,a,b⟩=>⟨vw,cr,e,a.ch c hs,GAt.ch c hs b⟩
end Go.Proofs.Im

noncomputable section
namespace Go.Ln
def Wds.get?:Wds→Nat→Option Wd
 | .nil,_=>none
 | .cons k t ks _,0=>some ⟨k,t,ks⟩
 | .cons _ _ _ r,n+1=>r.get? n
theorem Wds.TV:∀{ws:Wds} {k:Nat} {w:Wd},ws.get? k=some w→k<ws.len
 | .nil,_,_,h=>by cases h
 | .cons _ _ _ _,0,_,_=>by simp [Wds.len]
 | .cons _ _ _ r,n+1,w,h=>by have:=Wds.TV (ws:=r) h;simp only [Wds.len];omega
end Go.Ln
namespace Go.Proofs.Im
open Go Go.Proofs Go.Vm Go.Ln
set_option maxRecDepth 100000
def Told(P:Pos→Prop)(h:Hp)(v:V)(gs:List Ln.Got):Prop:=∃cs,Ow 0 h tG 2 v gs.length cs∧(∀j,aX v=some j→P j)∧GAt P h gs cs
theorem Told.ch{P P' S:Pos→Prop}{h h':Hp}{v:V}{gs:List Ln.Got}(t:Told P h v gs)(c:Ch S h h')(hs:∀j:Pos,j.nat<h.next.nat→P j→P' j∧¬S j):Told P' h' v gs:=by
 obtain⟨cs,o,i,w⟩:=t
 exact⟨cs,o.ch c fun j hj=>(hs j (o.dN hj).2 (i j hj)).2,fun j hj=>(hs j (o.dN hj).2 (i j hj)).1,w.ch c hs⟩
theorem Told.len{P:Pos→Prop}{h:Hp}{v:V}{gs:List Ln.Got}(t:Told P h v gs)(h':Hp):aY 2 v h'=.ok (.int .i64 (gs.length:Int)) h':=by
 obtain⟨cs,o,i,w⟩:=t
 exact o.sl.length
theorem GAt.get{P:Pos→Prop}{h:Hp}:∀{gs:List Ln.Got} {cs:List V} {k:Nat} {g:Ln.Got},GAt P h gs cs→gs[k]?=some g→cs[k*2]?=some (.int .i64 g.kind)∧∃vw,cs[k*2+1]?=some vw∧jI P h vw g.words
 | [],_,k,g,_,e=>by cases e
 |g0::l,_,0,g,⟨vw,cr,e1,w,r⟩,e=>by
  cases e
  subst e1
  exact⟨rfl,vw,rfl,w⟩
 |g0::l,_,k+1,g,⟨vw,cr,e1,w,r⟩,e=>by
  subst e1
  have:=GAt.get (k:=k) r e
  rw [show(k+1)*2=k*2+2 by omega]
  exact this
theorem WAt.get{P:Pos→Prop}{h:Hp}:∀{ws:Wds} {cs:List V} {k:Nat} {w:Wd},WAt P h ws cs→ws.get? k=some w→cs[k*3]?=some (.int .i64 w.kind)∧cs[k*3+1]?=some (.str w.text)∧∃vk,cs[k*3+2]?=some vk∧jI P h vk w.kids
 | .nil,_,k,w,_,e=>by cases e
 | .cons _ _ _ _,_,0,w,⟨vk,ck,cr,e1,o,p,x,r⟩,e=>by
  cases e
  subst e1
  exact⟨rfl,rfl,vk,rfl,ck,o,p,x⟩
 | .cons _ _ _ l,_,k+1,w,⟨vk,ck,cr,e1,o,p,x,r⟩,e=>by
  subst e1
  have:=WAt.get (k:=k) r e
  rw [show(k+1)*3=k*3+3 by omega]
  exact this
end Go.Proofs.Im
