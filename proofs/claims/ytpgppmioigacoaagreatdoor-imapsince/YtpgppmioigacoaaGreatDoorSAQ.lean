/- Lemmas that the claim's last text uses. No conditions. -/
import Derived.Test.YtpgppmioigacoaaGreatDoorSAM
import Derived.Test.YtpgppmioigacoaaGreatDoorSAN
import Derived.Test.YtpgppmioigacoaaGreatDoorSAO
import Derived.Test.YtpgppmioigacoaaGreatDoorSAP
import Derived.Test.YtpgppmioigacoaaGreatDoorSAH
import Derived.Test.YtpgppmioigacoaaGreatDoorSAI
set_option linter.all false
set_option maxRecDepth 100000
open List renaming length_append→a!,flatten_cons→b!,getElem?_eq_some_iff→d!,length_cons→e!,append_assoc→j!,flatten_append→k!,drop_zero→l!,length_drop→o!,drop_left→q!,getElem?_drop→t!,findIdx?_eq_some_iff_getElem→u!,eraseIdx_eq_take_drop_succ→x!,mem_append→A!,append_nil→B!,drop_drop→C!,findIdx?_eq_none_iff→E!,getElem?_eq_getElem→F!,length_eq_zero_iff→G!,mem_of_mem_drop→K!,mem_of_getElem?→L!,getElem_mem→N!,any_eq_true→O!,all_eq_true→P!,nil_append→R!,take_left→T!,mem_map→U!,range→Z!
open Nat renaming succ_mul→c!,beq_refl→g!,zero_add→i!,beq→n!,ne_of_beq_eq_false→p!,le_refl→r!,blt→v!,ble→w!,zero_le→z!,blt_eq→D!,add_comm→H!,le_of_ble_eq_true→I!,ble_eq_true_of_le→J!,zero_mul→V!,le_trans→W!,add_mul→Y!,ble_eq→a?
open Go.Vm.Pos renaming of→h!
open Option renaming casesOn→y!
open Bool renaming or_eq_false_iff→M!,not_eq_true→Q!,eq_iff_iff→S!
open Go.Vm.V renaming int→Y,ptr→X,bool→K,str→H
open Go.IntKind renaming i64→U
open Go.Vm.Ob renaming cells→O
open Go.Vm.Wr renaming rw→N
open Go.Vm.R renaming ok→D
noncomputable section
open Go Go.Proofs Go.Vm Go.Ln Go.Proofs.Ik
namespace Go.Proofs.Ik
def aof:Tab:=aLN::((Z! 20).map (ja false)++(Z! 20).map (ja true))
theorem okS:∀(u:Bool) (n:Nat),n<20->fV (ja u n)=true
 |false,0,_=>aOR
 |true,0,_=>aOH
 |false,1,_=>aOQ
 |true,1,_=>aOG
 |false,2,_=>aOP
 |true,2,_=>aOF
 |false,3,_=>aOO
 |true,3,_=>aOE
 |false,4,_=>aON
 |true,4,_=>aOD
 |false,5,_=>aOM
 |true,5,_=>aOC
 |false,6,_=>aOL
 |true,6,_=>aOB
 |false,7,_=>aOK
 |true,7,_=>aOA
 |false,8,_=>aOJ
 |true,8,_=>aOz
 |false,9,_=>aOI
 |true,9,_=>aOy
 |false,10,_=>aNV
 |true,10,_=>aNL
 |false,11,_=>aNU
 |true,11,_=>aNK
 |false,12,_=>aNT
 |true,12,_=>aNJ
 |false,13,_=>aNS
 |true,13,_=>aNI
 |false,14,_=>aNR
 |true,14,_=>aNH
 |false,15,_=>aNQ
 |true,15,_=>aNG
 |false,16,_=>aNP
 |true,16,_=>aNF
 |false,17,_=>aNO
 |true,17,_=>aNE
 |false,18,_=>aNN
 |true,18,_=>aND
 |false,19,_=>aNM
 |true,19,_=>aNC
 |_,_+20,h=>absurd h (by omega)
theorem aHq:∀e∈aof,fV e=true:=λe a=>by
 unfold aof at a;simp only[List.mem_cons,A!,U!,List.mem_range]at a;rcases a with rfl|⟨n,b,rfl⟩|⟨n,b,rfl⟩
 ·exact okA
 ·exact okS _ _ b
 ·exact okS _ _ b
def ao6:Fun:=aat aof
theorem aKl:aG Tryz.prog aJ 41 ao6:=at7 aHq
theorem lookA:aag aof fsA=some flA:=kR
theorem aN0:∀(u:Bool) (n:Nat),n<20->aag aof (asG u n)=some [aAp u n]:=λu n a=>by
 rcases(by omega:n=0\/n=1\/n=2\/n=3\/n=4\/n=5\/n=6\/n=7\/n=8\/n=9\/n=10\/n=11\/n=12\/n=13\/n=14\/n=15\/n=16\/n=17\/n=18\/n=19) with rfl|rfl|rfl|rfl|rfl|rfl|rfl|rfl|rfl|rfl|rfl|rfl|rfl|rfl|rfl|rfl|rfl|rfl|rfl|rfl<;>cases u<;>kernel_rfl
end Go.Proofs.Ik
namespace Go.Vm
section
variable{h h' g f:Hp}{i j:Pos}{o o':Ob}{S:Pos->Prop}{P:Program}
abbrev Nw(h h':Hp):Prop:=Ch (λ_=>False) h h'
theorem Nw.refl(h:Hp):Nw h h:=Ch.refl _ _
theorem Nw.trans(a:Nw h g)(b:Nw g f):Nw h f:=Ch.trans a b λ_ _ q=>q
theorem Nw.new(h:Hp)(o:Ob):Nw h (h.new o):=Ch.new _ _ _
theorem Nw.ch(c:Nw h g):Ch S h g:=c.mono λ_ _ q=>q.elim
theorem Nw.put(c:Nw h g)(hi:h.next.nat<=i.nat)(x:Option Ob):Nw h (g.put i x):=
 Ch.trans c (Ch.put (S:=λj=>j=i) g x rfl) λj a q=>by rw[q]at a;omega
theorem Nw.then(c:Nw h g)(d:Ch S g f)(a:∀j:Pos,j.nat<h.next.nat->S j->False):Nw h f:=Ch.trans c d a
theorem Ch.nw(c:Ch S h g)(d:Nw g f):Ch S h f:=c.trans d λ_ _ q=>q.elim
def Kn(h:Hp)(i:Pos)(o:Ob):Prop:=h.get i=some o/\i.nat<h.next.nat
theorem Kn.new(h:Hp)(o:Ob):Kn (h.new o) h.next o:=⟨dX _ _,by rw[bI];omega⟩
theorem Kn.ch(k:Kn h i o)(c:Ch S h g)(a:¬S i):Kn g i o:=⟨(c.get i k.2 a).trans k.1,Nat.lt_of_lt_of_le k.2 c.next⟩
theorem Kn.nw(k:Kn h i o)(c:Nw h g):Kn g i o:=k.ch c λq=>q
theorem Kn.add(k:Kn h i o)(o':Ob):Kn (h.new o') i o:=k.nw (Nw.new _ _)
theorem Kn.put(k:Kn h i o)(o':Ob):Kn (h.put i (some o')) i o':=⟨kL _ _ _,k.2⟩
theorem Kn.RZ(k:Kn h i o)(a:i≠j)(x:Option Ob):Kn (h.put j x) i o:=⟨(Go.Vm.RZ h (aAA a) x).trans k.1,k.2⟩
theorem Kn.ld{w:Wr}{cs:List V}{q:Nat}{x:V}(k:Kn h i (O w cs))(a:cs[q]?=some x):aF (X i q) h=D x h:=by
 rw[CB k.1,a]
theorem Kn.ldN{w:Wr}{cs:List V}{n:Nat}(k:Kn h i (O w cs))(a:cs.length=n):bT n (X i 0) h=D (.agg (V.ofList cs)) h:=by
 show dQ h i _=_;rw[dL (wr:=w) (all:=cs) (by rw[k.1];rfl),jb,l!,<-a,ad5]
theorem Kn.st{t:TypeId}{f:Bool}{cs:List V}{q:Nat}{y:V}(k:Kn h i (O (N t f) cs))(c:y.cells= [y]/\gW y=true)(a:q<cs.length):
  aQ 1 (X i q) y h=D V.undef (h.put i (some (O (N t f) (cs.set q y)))):=RU k.1 c a
theorem ZT:∀{n:Nat} {x l:List V},x.length=n->l.length=n->jh 0 x l=some x
 |0,[],[],_,_=>rfl
 |n+1,a::x,b::l,c,hl=>by
  show y! (motive:=λ_=>Option (List V)) (jh 0 x l) none (λr=>some (a::r))=_;rw[ZT (n:=n) (by simpa using c) (by simpa using hl)]
 |0,_::_,_,c,_=>by simp at c
 |0,[],_::_,_,hl=>by simp at hl
 |n+1,[],_,c,_=>by simp at c
 |n+1,_::_,[],_,hl=>by simp at hl
theorem Kn.stN{t:TypeId}{f:Bool}{cs l:List V}{n:Nat}(k:Kn h i (O (N t f) cs))(hl:l.length=n)(c:cs.length=n):
  aQ n (X i 0) (.agg (V.ofList l)) h=D V.undef (h.put i (some (O (N t f) l))):=by
 rw[wP k.1 rfl (by show n! (V.ofList l).list.length n=true;rw[V.bW,hl,g!])];show(match jh 0 (V.ofList l).list cs with|some a=>R.ok V.undef (h.put i (some (O (N t f) a)))|none=>.bad)=_;rw[V.bW,ZT hl c]
theorem T.set_set{α:Type}(x y:Option α)(p:Pos)(t:T α):(t.set x p).set y p=t.set y p:=by
 induction p generalizing t with
 |h=>cases t<;>rfl
 |o p a=>cases t with
  |nil=>exact congrArg (T.node none · .nil) (a .nil)
  |node v l r=>exact congrArg (T.node v · r) (a l)
 |i p a=>cases t with
  |nil=>exact congrArg (T.node none .nil ·) (a .nil)
  |node v l r=>exact congrArg (T.node v l ·) (a r)
theorem aoy(h:Hp)(o o':Ob):(h.new o).put h.next (some o')=h.new o':=by
 show(⟨_,_⟩:Hp)=⟨_,_⟩;rw[show(h.new o).t=h.t.set (some o) h.next from rfl,T.set_set];rfl
theorem ax2(t:TypeId)(z:List V)(h:Hp):fE t z h=D (X h.next 0) (h.new (O (N t true) z)):=(rfl)
theorem agS(t:TypeId)(l:V)(h:Hp):fO t (.agg l) h=D (X h.next 0) (h.new (O (N t true) l.list)):=(rfl)
theorem aj3(t:TypeId)(k:IntKind)(n:Int)(h:Hp):fO t (Y k n) h=D (X h.next 0) (h.new (O (N t true) [Y k n])):=(rfl)
theorem atj(t:TypeId)(s:List Nat)(h:Hp):fO t (H s) h=D (X h.next 0) (h.new (O (N t true) [H s])):=(rfl)
theorem ig{t:TypeId}{f:Bool}{z:List V}{l:V}{n:Nat}(d:l.isRow=true)(hl:l.list.length=n)(c:z.length=n):
  aQ n (X h.next 0) (.agg l) (h.new (O (N t f) z))=D V.undef (h.new (O (N t f) l.list)):=by
 rw[wP (dX h _) rfl (by show n! l.list.length n=true;rw[hl,g!])];show(match jh 0 l.list z with|some a=>R.ok V.undef ((h.new (O (N t f) z)).put h.next (some (O (N t f) a)))|none=>.bad)=_;rw[ZT hl c];simp only[];rw[aoy]
theorem XG{t:TypeId}{f:Bool}{z:List V}{q:Nat}{y:V}(c:y.cells= [y]/\gW y=true)(a:q<z.length):
  aQ 1 (X h.next q) y (h.new (O (N t f) z))=D V.undef (h.new (O (N t f) (z.set q y))):=by
 rw[RU (dX h _) c a,aoy]
abbrev El(α:Type):=(Pos->Prop)->Hp->α->List V->Prop
def El.Stable{α:Type}(E:El α):Prop:=∀{P P' S:Pos->Prop} {h h':Hp} {a:α} {cs:List V},E P h a cs->Ch S h h'->(∀j:Pos,j.nat<h.next.nat->P j->P' j/\¬S j)->E P' h' a cs
def flat{α:Type}(c:α->List V):El α:=λ_ _ a cs=>cs=c a
theorem aK{α:Type}(c:α->List V):(flat c).Stable:=λe _ _=>e
inductive All2 {α:Type} (R:α->List V->Prop):List α->List (List V)->Prop
 |nil:All2 R [] []
 |cons {a c l cs}:R a c->All2 R l cs->All2 R (a::l) (c::cs)
end
end Go.Vm
namespace Go.Vm.All2
section
variable{h h' g f:Hp}{i j:Pos}{o o':Ob}{S:Pos->Prop}{P:Program}
variable{α:Type}{R Q:α->List V->Prop}{l m:List α}{cs ds:List (List V)}
theorem len(a:All2 R l cs):cs.length=l.length:=by induction a<;>simp[*]
theorem mono(a:All2 R l cs)(d:∀a c,R a c->Q a c):All2 Q l cs:=by
 induction a with
 |nil=>exact .nil
 |cons r _ e=>exact .cons (d _ _ r) e
theorem append(a:All2 R l cs)(b:All2 R m ds):All2 R (l++m) (cs++ds):=by
 induction a with
 |nil=>exact b
 |cons r _ c=>exact .cons r c
theorem get(a:All2 R l cs):∀{k:Nat} {x:α},l[k]?=some x->∃c,cs[k]?=some c/\R x c:=by
 induction a with
 |nil=>intro k x e;simp at e
 |cons r _ d=>
  intro k x e;cases k with
  |zero=>simp at e;subst e;exact⟨_,rfl,r⟩
  |succ k=>simp at e;exact d e
theorem take(a:All2 R l cs):∀n,All2 R (l.take n) (cs.take n):=by
 induction a with
 |nil=>intro n;simp;exact .nil
 |cons r _ c=>intro n;cases n with
  |zero=>exact .nil
  |succ n=>exact .cons r (c n)
theorem drop(a:All2 R l cs):∀n,All2 R (l.drop n) (cs.drop n):=by
 induction a with
 |nil=>intro n;simp;exact .nil
 |cons r b c=>intro n;cases n with
  |zero=>exact .cons r b
  |succ n=>exact c n
theorem set(a:All2 R l cs):∀{k:Nat} {x:α} {c:List V},R x c->All2 R (l.set k x) (cs.set k c):=by
 induction a with
 |nil=>intro k x c _;simp;exact .nil
 |cons r b d=>intro k x c e;cases k with
  |zero=>exact .cons e b
  |succ k=>exact .cons r (d e)
end
end Go.Vm.All2
namespace Go.Vm
section
variable{h h' g f:Hp}{i j:Pos}{o o':Ob}{S:Pos->Prop}{P:Program}
theorem iQ{w:Nat}:∀{cs:List (List V)},(∀c∈cs,c.length=w)->cs.flatten.length=cs.length*w
 | [],_=>by simp
 |c::cs,a=>by
  rw[b!,a!,a c (by simp),iQ λd hd=>a d (by simp[hd]),e!,c!];omega
theorem Kr{w:Nat}:∀{cs:List (List V)} {k:Nat} {c:List V},(∀c∈cs,c.length=w)->cs[k]?=some c->(cs.flatten.drop (k*w)).take w=c
 | [],k,c,_,e=>by simp at e
 |d::cs,0,c,a,e=>by
  simp at e;subst e;have:=a d (by simp);rw[V!,l!,b!,<-this,T!]
 |d::cs,k+1,c,a,e=>by
  have hd:=a d (by simp);rw[b!,c!,H!,<-C!,<-hd,q!,hd];exact Kr (λc n=>a c (by simp[n])) (by simpa using e)
theorem U2{w:Nat}:∀{cs:List (List V)} (k:Nat),(∀c∈cs,c.length=w)->cs.flatten.take (k*w)=(cs.take k).flatten
 | [],k,_=>by simp
 |d::cs,0,a=>by simp
 |d::cs,k+1,a=>by
  have hd:=a d (by simp);rw[b!,List.take_succ_cons,b!,c!,H!,<-hd,List.take_length_add_append,hd,U2 k λc e=>a c (by simp[e])]
theorem aeI{w:Nat}:∀{cs:List (List V)} (k:Nat),(∀c∈cs,c.length=w)->cs.flatten.drop (k*w)=(cs.drop k).flatten
 | [],k,_=>by simp
 |d::cs,0,a=>by simp
 |d::cs,k+1,a=>by
  have hd:=a d (by simp);rw[b!,List.drop_succ_cons,c!,H!,<-C!,<-hd,q!,hd,aeI k λc e=>a c (by simp[e])]
def Rws{α:Type}(P:Pos->Prop)(E:El α)(w:Nat)(h:Hp)(v:V)(l:List α):Prop:=
 ∃a:List (List V),All2 (E P h) l a/\(∀c∈a,c.length=w)/\Sl h.next.nat h w v l.length a.flatten/\yN w v/\∀j,bC v=some j->P j
end
end Go.Vm
namespace Go.Vm.Rws
section
variable{h h' g f:Hp}{i j:Pos}{o o':Ob}{S:Pos->Prop}{P:Program}
variable{α:Type}{P P':Pos->Prop}{E:El α}{w:Nat}{v:V}{l:List α}
theorem ch(r:Rws P E w h v l)(t:E.Stable)(c:Ch S h h')(q:∀j:Pos,j.nat<h.next.nat->P j->P' j/\¬S j):Rws P' E w h' v l:=by
 obtain⟨n,a,u,s,k,p⟩:=r;exact⟨n,a.mono λ_ _ e=>t e c q,u,(s.ch c (r! _) λj d=>(q j (s.eY d) (p j d)).2).le c.next,k,λj d=>(q j (s.eY d) (p j d)).1⟩
theorem nw(r:Rws P E w h v l)(a:E.Stable)(c:Nw h h'):Rws P E w h' v l:=r.ch a c λ_ _ q=>⟨q,λq=>q⟩
theorem mono(r:Rws P E w h v l)(c:E.Stable)(d:∀j:Pos,j.nat<h.next.nat->P j->P' j):Rws P' E w h v l:=r.ch c (Nw.refl h) λj a b=>⟨d j a b,λq=>q⟩
theorem len(r:Rws P E w h v l)(g:Hp):aZ 2 v g=D (Y U (l.length:Int)) g:=by
 obtain⟨c,a,d,s,k,p⟩:=r;exact s.length
theorem cell(r:Rws P E w h v l):v.cells= [v]/\gW v=true:=by
 obtain⟨c,a,d,s,k,p⟩:=r;exact s.cell
theorem elt(r:Rws P E w h v l){k:Nat}{x:α}(e:l[k]?=some x):
  ∃i q cs,(∀g,aX w v (Y U (k:Int)) g=D (X i q) g)/\E P h x cs/\cs.length=w/\i.nat<h.next.nat/\P i/\
   (∀g,g.get i=h.get i->∀f y,cs[f]?=some y->aF (X i (q+f)) g=D y g)/\∀g,g.get i=h.get i->bT w (X i q) g=D (.agg (V.ofList cs)) g:=by
 obtain⟨G,a,u,s,kk,p⟩:=r;obtain⟨c,n,ex⟩:=a.get e;have C:k<l.length:=(d!.1 e).1;have B:=u c (L! n);obtain⟨i,q,e1,hi,e2,z⟩:=s.atN C;have t:bC v=some i:=by
  have:=e1 h;rcases s.is with⟨h0,_⟩|⟨i',o,cp,wr,all,rfl,_⟩
  ·omega
  ·rw[yw C]at this;cases this;rfl
 rw[Kr u n]at z;refine⟨i,q,c,e1,ex,B,hi,p i t,λg I f y d=>e2 g I f y ?_ ?_,z⟩
 ·rw[<-B];exact(d!.1 d).1
 ·have:=Kr u n;rw[<-this,List.getElem?_take,t!]at d;split at d
  ·exact d
  ·cases d
theorem aO(P:Pos->Prop)(E:El α)(w:Nat)(h:Hp):Rws P E w h .aO []:=
 ⟨[],.nil,λ_ q=>(by cases q),⟨by simp,.inl ⟨rfl,.inl rfl⟩⟩,λ_ _ _ _ e=>(by cases e),λ_ e=>(by cases e)⟩
theorem emp(P:Pos->Prop)(E:El α)(w:Nat)(h:Hp):Rws P E w h .emp []:=
 ⟨[],.nil,λ_ q=>(by cases q),⟨by simp,.inl ⟨rfl,.inr rfl⟩⟩,λ_ _ _ _ e=>(by cases e),λ_ e=>(by cases e)⟩
end
end Go.Vm.Rws
namespace Go.Vm
section
variable{h h' g f:Hp}{i j:Pos}{o o':Ob}{S:Pos->Prop}{P:Program}
def dA{α:Type}(b:Nat)(P:Pos->Prop)(E:El α)(el:TypeId)(w:Nat)(h:Hp)(v:V)(l:List α):Prop:=
 ∃a:List (List V),All2 (E P h) l a/\(∀c∈a,c.length=w)/\Ow b h el w v l.length a.flatten
end
end Go.Vm
namespace Go.Vm.dA
section
variable{h h' g f:Hp}{i j:Pos}{o o':Ob}{S:Pos->Prop}{P:Program}
variable{α:Type}{b:Nat}{P P':Pos->Prop}{E:El α}{el:TypeId}{w:Nat}{v:V}{l:List α}
theorem nil(b:Nat)(P:Pos->Prop)(E:El α)(el:TypeId)(w:Nat)(h:Hp):dA b P E el w h .aO []:=⟨[],.nil,λ_ q=>(by cases q),Ow.nil _ _ _ _⟩
theorem ch(r:dA b P E el w h v l)(k:E.Stable)(c:Ch S h h')(q:∀j:Pos,bC v=some j->¬S j)(n:∀j:Pos,j.nat<h.next.nat->P j->P' j/\¬S j):dA b P' E el w h' v l:=by
 obtain⟨d,a,t,s⟩:=r;exact⟨d,a.mono λ_ _ e=>k e c n,t,s.ch c q⟩
theorem nw(r:dA b P E el w h v l)(a:E.Stable)(c:Nw h h'):dA b P E el w h' v l:=r.ch a c (λ_ _ q=>q) λ_ _ q=>⟨q,λq=>q⟩
theorem mono(r:dA b P E el w h v l)(c:E.Stable)(d:∀j:Pos,j.nat<h.next.nat->P j->P' j):dA b P' E el w h v l:=r.ch c (Nw.refl h) (λ_ _ q=>q) λj a b=>⟨d j a b,λq=>q⟩
theorem rows(r:dA b P E el w h v l)(u:E.Stable)(y:∀j:Pos,j.nat<h.next.nat->P j->P' j)(z:∀j:Pos,b<=j.nat->j.nat<h.next.nat->P' j):Rws P' E w h v l:=by
 obtain⟨k,a,B,s⟩:=r;refine⟨k,a.mono λ_ _ e=>u e (Nw.refl h) λj d C=>⟨y j d C,λq=>q⟩,B,s.sl,?_,λj d=>z j (s.eY d).1 (s.eY d).2⟩;intro i q n c e;rcases s.is with⟨_,t⟩|⟨_,t,_⟩
 ·rw[t]at e;cases e
 ·rw[t]at e;cases e;rfl
theorem len(r:dA b P E el w h v l)(g:Hp):aZ 2 v g=D (Y U (l.length:Int)) g:=by
 obtain⟨c,a,d,s⟩:=r;exact s.sl.length
theorem cell(r:dA b P E el w h v l):v.cells= [v]/\gW v=true:=by
 obtain⟨c,a,d,s⟩:=r;exact s.cell
end
end Go.Vm.dA
namespace Go.Vm
section
variable{h h' g f:Hp}{i j:Pos}{o o':Ob}{S:Pos->Prop}{P:Program}
theorem Ow.base{b b':Nat}{el:TypeId}{sz n:Nat}{v:V}{cs:List V}(s:Ow b h el sz v n cs)(hb:∀j,bC v=some j->b'<=j.nat):Ow b' h el sz v n cs:=⟨s.len,by
 rcases s.is with h0|⟨i,rfl,_,hi,f1,a⟩
 ·exact .inl h0
 ·exact .inr ⟨i,rfl,hb i rfl,hi,f1,a⟩⟩
theorem dA.app1{α:Type}{b bt:Nat}{P P':Pos->Prop}{E:El α}{el:TypeId}{w:Nat}{v:V}{l:List α}{x:α}{cs:List V}(r:dA b P E el w h v l)(z:E.Stable)(hb:b<=h.next.nat)(B:cs.length=w)
  (C:∀j:Pos,j.nat<h.next.nat->P j->P' j) (L:E P' h x cs) (G:∀j:Pos,j.nat<h.next.nat->P' j->bC v≠some j) (I:(l.length+1)*bt<=140737488355328):
  ∃u h',bK el w bt v (.slice h.next 0 1 (.kn 1)) (h.new (O (N el true) cs))=D u h'/\dA b P' E el w h' u (l++ [x])/\Ch (λj=>bC v=some j) h h'/\h'.next.nat=h.next.nat+2/\u=.slice h.next.succ 0 (l.length+1) (.un w):=by
 obtain⟨y,a,J,s⟩:=r;obtain⟨u,h',e,e2,o,c,n⟩:=ayG (bt:=bt) (s.base (b':=0) λ_ _=>z! _) B I;refine⟨u,h',e,⟨y++ [cs],?_,?_,?_⟩,c,n,e2⟩
 ·exact(a.mono λ_ _ q=>z q c λj k t=>⟨C j k t,λq=>G j k (C j k t) q⟩).append (.cons (z L c λj k t=>⟨t,G j k t⟩) .nil)
 ·intro d hd;rcases A!.1 hd with q|q
  ·exact J d q
  ·simp at q;subst q;exact B
 ·rw[k!,a!];simp only[b!,List.flatten_nil,B!,e!,List.length_nil,i!];exact o.base λj k=>by rw[e2]at k;cases k;rw[Pos.fG];omega
theorem dA.eY{α:Type}{b:Nat}{P:Pos->Prop}{E:El α}{el:TypeId}{w:Nat}{v:V}{l:List α}(r:dA b P E el w h v l){j:Pos}(d:bC v=some j):b<=j.nat/\j.nat<h.next.nat:=by
 obtain⟨c,a,e,s⟩:=r;exact s.eY d
def Fa(fr:F):List Nat->List V->Prop
 | [],_=>True
 |k::ks,vs=>(match vs with| []=>False|x::vs=>fr.get (h! k)=some x/\Fa fr ks vs)
theorem Fa.set{fr:F}{p:Nat}{x:Option V}:∀{ks:List Nat} {vs:List V},Fa fr ks vs->ks.contains p=false->Fa (T.set x (h! p) fr) ks vs
 | [],_,_,_=>trivial
 |k::ks,[],a,_=>a.elim
 |k::ks,y::vs,a,n=>by
  simp only[List.contains_cons,M!]at n;refine⟨?_,Fa.set a.2 n.2⟩;rw[sS,if_neg]
  ·exact a.1
  ·intro e;rw[e]at n;simp at n
def Rd{σ:Type}(ks:List Nat)(L:σ->List V)(pi pn k n:Nat)(I:σ->Hp->Prop)(A B:F->Hp->Prop)(id:Nat):Out->Prop
 | .nor fr h=>fr.get (h! pi)=some (Y U (k:Int))/\fr.get (h! pn)=some (Y U (n:Int))/\∃s,Fa fr ks (L s)/\I s h
 | .ret fr h=>B fr h
 | .ex m fr h=>m=id/\A fr h
 | .bad=>False
theorem dK{σ:Type}{id pi pn pc n:Nat}{t Bd u:F->Hp->Out}(ks:List Nat)(L:σ->List V)(I:Nat->σ->Hp->Prop){A B:F->Hp->Prop}{fr:F}{h:Hp}{s:σ}
  (h5:∀fr h,fr.get (h! pi)=fr.get (h! pi)->∀k:Nat,fr.get (h! pi)=some (Y U (k:Int))->fr.get (h! pn)=some (Y U (n:Int))->t fr h=.nor (T.set (some (K (decide ((k:Int)<(n:Int))))) (h! pc) fr) h)
  (h8:∀fr h,∀k:Nat,k<n->fr.get (h! pi)=some (Y U (k:Int))->u fr h=.nor (T.set (some (Y U ((k:Int)+1))) (h! pi) fr) h)
  (hd:(ks.contains pi||ks.contains pc||n! pi pn||n! pc pi||n! pc pn)=false) (hn:n<lf)
  (i0:fr.get (h! pi)=some (Y U 0)) (n0:fr.get (h! pn)=some (Y U (n:Int))) (a0:Fa fr ks (L s)) (J:I 0 s h)
  (step:∀k s fr h,k<n->fr.get (h! pi)=some (Y U (k:Int))->fr.get (h! pn)=some (Y U (n:Int))->Fa fr ks (L s)->I k s h->Rd ks L pi pn k n (I (k+1)) A B id (Bd fr h))
  (fin:∀s fr h,Fa fr ks (L s)->I n s h->A fr h):
  Oc A B (Bz id (dH (aB t (aB (aT (.tmp pc) Out.nor (Out.ex id)) (aB Bd u))) lf fr h)):=by
 simp only[M!]at hd;obtain⟨⟨⟨⟨M,y⟩,W⟩,Z⟩,d5⟩:=hd;have e3:pi≠pn:=p! W;have e4:pc≠pi:=p! Z;have e5:pc≠pn:=p! d5;refine dW (n:=n) (λm fr h=>∃(k:Nat) (s:σ),k+m=n/\fr.get (h! pi)=some (Y U (k:Int))/\fr.get (h! pn)=some (Y U (n:Int))/\Fa fr ks (L s)/\I k s h) hn ⟨0,s,by omega,i0,n0,a0,J⟩ ?_;rintro m fr h ⟨k,s,hk,C,fn,z,G⟩;rw[XJ,h5 fr h rfl k C fn,MG,XJ,akk,sS,if_pos rfl,akd];by_cases c:k<n
 ·rw[aoF (by omega),MG,XJ];have st:=step k s (T.set (some (K (decide ((k:Int)<(n:Int))))) (h! pc) fr) h c (by rw[sS,if_neg (Ne.symm e4)];exact C) (by rw[sS,if_neg (Ne.symm e5)];exact fn) (z.set y) G;cases hb:Bd (T.set (some (K (decide ((k:Int)<(n:Int))))) (h! pc) fr) h with
  |nor a d=>
   rw[hb]at st;obtain⟨gi,gn,s1,ga,e⟩:=st;rw[MG,h8 a d k c gi];refine⟨m - 1,by omega,k+1,s1,by omega,?_,?_,ga.set M,e⟩
   ·rw[sS,if_pos rfl];rfl
   ·rw[sS,if_neg (Ne.symm e3)];exact gn
  |ret a d=>rw[hb]at st;exact st
  |ex q a d=>rw[hb]at st;exact st
  |bad=>rw[hb]at st;exact st.elim
 ·rw[aoG (by omega)];have r:k=n:=by omega
  subst r;exact⟨rfl,fin s _ h (z.set y) G⟩
end
section
variable{h:Hp}
theorem sG:aI .eql .slice .aO .aO h=D (K true) h:=(rfl)
theorem sD(el:TypeId)(h:Hp):aou el h=D (.slice h.next 0 0 (.kn 0)) (h.new (O (N el true) [])):=(rfl)
theorem Td{el:TypeId}{sz bt b o n:Nat}{i:Pos}{cp:Cap}{x:V}(s:Sl b h sz x 0 []):bK el sz bt (.slice i o n cp) x h=D (.slice i o n cp) h:=by
 unfold bK;rw[s.src]
theorem ayg{l:List V}(h:l.length=1):∃y,l= [y]:=by
 match l,h with
 | [y],_=>exact⟨y,rfl⟩
theorem take_snoc{α:Type}{l:List α}{k:Nat}{a:α}(e:l[k]?=some a):l.take (k+1)=l.take k++ [a]:=by rw[List.take_add_one,e];rfl
def gy:Option Nat->Int
 |some k=>(k:Int)
 |none=> -1
theorem lY{α:Type}{p:α->Bool}{l:List α}{k:Nat}{x:α}(d:l[k]?=some x)(a:(l.take k).findIdx? p=none)(n:p x=true):l.findIdx? p=some k:=by
 have e:=(d!.1 d).1;have c:=(d!.1 d).2;rw[u!];refine⟨e,by rw[c];exact n,λj q=>?_⟩;have:=E!.1 a (l[j]'(by omega)) (by
  rw[List.mem_take_iff_getElem];exact⟨j,by omega,rfl⟩)
 simpa using this
theorem Ef{α:Type}(p:α->Bool)(l:List α):decide (gy (l.findIdx? p)>=0)=l.any p:=by
 cases a:l.findIdx? p with
 |none=>
  rw[E!]at a;rw[S!];simp[gy,O!];exact a
 |some k=>
  obtain⟨c,d,_⟩:=u!.1 a;rw[S!];simp only[gy,O!];exact⟨λ_=>⟨l[k],N! c,d⟩,λ_=>decide_eq_true (Int.natCast_nonneg k)⟩
theorem Rws.zero{α:Type}{b w:Nat}{c:α->List V}{el:TypeId}(hb:b<=h.next.nat):Rws (λj=>b<=j.nat) (flat c) w (h.new (O (N el true) [])) (.slice h.next 0 0 (.kn 0)) ([]:List α):=
 ⟨[],.nil,λ_ q=>(by cases q),⟨by simp,.inr ⟨h.next,0,_,N el true,[],rfl,by rw[bI];omega,by rw[dX];rfl,λk d=>by simp at d⟩⟩,λi o n c e=>by cases e;exact r! _,λj a=>by cases a;exact hb⟩
end
theorem ax8(n:Nat)(x:V)(h:Hp):fC (.func n) [] [x] h=D (.func (.func n) .nil (.cons x .nil)) h:=(rfl)
theorem ax7(n:Nat)(x y:V)(h:Hp):fC (.func n) [] [x,y] h=D (.func (.func n) .nil (.cons x (.cons y .nil))) h:=(rfl)
theorem ax6(n:Nat)(x y z:V)(h:Hp):fC (.func n) [] [x,y,z] h=D (.func (.func n) .nil (.cons x (.cons y (.cons z .nil)))) h:=(rfl)
theorem ax9(n:Nat)(h:Hp):fC (.func n) [] [] h=D (.func (.func n) .nil .nil) h:=(rfl)
theorem vqK:type_of% @ax2/\type_of% @agS/\type_of% @aj3/\type_of% @atj/\type_of% @ax8/\type_of% @ax7/\type_of% @ax6/\type_of% @ax9/\type_of% @sD:=
 ⟨@ax2,@agS,@aj3,@atj,@ax8,@ax7,@ax6,@ax9,@sD⟩
section
variable{h g:Hp}{p:Pos}
def V.noF:V->Bool
 | .func _ _ _=>false
 | .iface _ v=>v.noF
 | .agg v=>v.noF
 | .tuple v=>v.noF
 | .cons a b=>a.noF&&b.noF
 |_=>true
theorem alq:∀s:List Nat,kS s s=true
 | []=>rfl
 |a::s=>by simp only[kS,g!];exact alq s
theorem akh:∀{v:V},v.noF=true->eqV v v=true:=by
 intro v;induction v with
 |bool b=>intro _;cases b<;>rfl
 |int k n=>intro _;exact aH5 k n
 |str s=>intro _;exact alq s
 |ptr i o=>intro _;show(match i.eq i with|true=>n! o o|false=>false)=true;rw[Pos.eq_self,g!]
 |slice i o n c=>intro _;cases c<;>simp only[eqV,Pos.eq_self,g!]
 |map i=>intro _;exact Pos.eq_self i
 |func fn a b=>intro d;cases d
 |iface t v q=>intro d;show(match n! t t with|true=>eqV v v|false=>false)=true;rw[g!];exact q d
 |agg v q=>intro d;exact q d
 |tuple v q=>intro d;exact q d
 |cons a b r u=>
  intro d;have e:(a.noF&&b.noF)=true:=d;rw[Bool.and_eq_true]at e;show(match eqV a a with|true=>eqV b b|false=>false)=true;rw[r e.1];exact u e.2
 |_=>intro _;rfl
theorem Sl.noF{b sz n:Nat}{v:V}{cs:List V}(s:Sl b h sz v n cs):v.noF=true:=by
 rcases s.is with⟨_,rfl|rfl⟩|⟨i,o,c,wr,all,rfl,_⟩<;>rfl
theorem Rws.noF{α:Type}{P:Pos->Prop}{E:El α}{w:Nat}{v:V}{l:List α}(r:Rws P E w h v l):v.noF=true:=by
 obtain⟨c,a,d,s,k,p⟩:=r;exact s.noF
theorem uS{m:Hp->R V}{v:V}{k:Out}{g g':Hp}(a:v.noF=true)(e:m g=D v g'):chk m v k 1 [g]=k:=Kz e (akh a)
theorem auo{m:Hp->R V}{v:V}{k:Out}{g g' f f':Hp}(a:v.noF=true)(e:m g=D v g')(e2:m f=D v f'):chk m v k 2 [g,f]=k:=ayB e e2 (akh a)
theorem aBj{m:Hp->R V}{v:V}{k:Out}{g g' f f' d c:Hp}(a:v.noF=true)(e:m g=D v g')(e2:m f=D v f')(n:m d=D v c):chk m v k 3 [g,f,d]=k:=by
 show(match m g with|D q _=>(match eqV v q with|true=>chk m v k 2 [f,d]|false=>.bad)| .bad=>.bad)=_;rw[e];simp only[akh a];exact auo a e2 n
theorem awU{w:Wr}{cs:List V}{q:Nat}{n:Int}(k:Kn h p (O w cs))(a:cs[q]?=some (Y U n)):aaC U [X p q] h=D (Y U n) h:=by
 show dQ h p (λ_ cs=>match JZ q cs with|some v=>(match v with|Y c n=>(match UU U c with|true=>R.ok (Y U n) h|false=>.bad)|_=>.bad)|none=>.bad)=_;rw[dL (wr:=w) (all:=cs) (by rw[k.1];rfl),nS,a];rfl
theorem auy{t:TypeId}{f:Bool}{cs:List V}{q:Nat}{n:Int}(k:Kn h p (O (N t f) cs))(c:q<cs.length):MR [X p q,Y U n] h=D V.undef (h.put p (some (O (N t f) (cs.set q (Y U n))))):=by
 show dQ h p (λwr cs=>(match wr with
   |N t f=>(match jh q [Y U n] cs with|some a=>R.ok V.undef (h.put p (some (O (N t f) a)))|none=>.bad)
   | .ro=>.bad))=_
 rw[dL (wr:=N t f) (all:=cs) (by rw[k.1];rfl)];simp only[Sj c]
theorem aBr{t:TypeId}{f:Bool}{cs:List V}{q:Nat}{n m:Int}(k:Kn h p (O (N t f) cs))(d:cs[q]?=some (Y U n))(r: -9223372036854775808<=n+m)(u:n+m<9223372036854775808):
  X9 U [X p q,Y U m] h=D (Y U (n+m)) (h.put p (some (O (N t f) (cs.set q (Y U (n+m)))))):=by
 have c:q<cs.length:=(d!.1 d).1;have e:jd U (wI U (n+m)) h=D (Y U (n+m)) h:=by rw[zF,wrap_in r u,iq]
 show dQ h p (λwr cs=>(match JZ q cs with
   |some v=>(match v with
    |Y y n=>(match UU U y,UU U U with
     |true,true=>(match wr with
      |N t f=>(match jd U (wI U (n+m)) h with
       |D s _=>(match jh q [s] cs with|some a=>R.ok s (h.put p (some (O (N t f) a)))|none=>.bad)
       | .bad=>.bad)
      | .ro=>.bad)
     |_,_=>.bad)
    |_=>.bad)
   |none=>.bad))=_
 rw[dL (wr:=N t f) (all:=cs) (by rw[k.1];rfl),nS,d];show(match jd U (wI U (n+m)) h with
       |D s _=>(match jh q [s] cs with|some a=>R.ok s (h.put p (some (O (N t f) a)))|none=>.bad)
       | .bad=>.bad)=_
 rw[e];simp only[Sj c]
end
section
variable{h h' g:Hp}{α:Type}{b bt:Nat}{E:El α}{el:TypeId}{w:Nat}{v:V}{l:List α}{x:α}{cs:List V}
abbrev gK(b:Nat)(E:El α)(el:TypeId)(w:Nat)(h:Hp)(v:V)(l:List α):Prop:=dA b (λj=>b<=j.nat/\bC v≠some j) E el w h v l
theorem gK.app{P0:Pos->Prop}(r:gK b E el w h v l)(s:E.Stable)(hb:b<=h.next.nat)(t:cs.length=w)(z:E P0 h x cs)(u:∀j:Pos,j.nat<h.next.nat->P0 j->b<=j.nat/\bC v≠some j)(y:(l.length+1)*bt<=140737488355328):
  ∃k h',bK el w bt v (.slice h.next 0 1 (.kn 1)) (h.new (O (N el true) cs))=D k h'/\gK b E el w h' k (l++ [x])/\Ch (λj=>bC v=some j) h h'/\h'.next.nat=h.next.nat+2/\k=.slice h.next.succ 0 (l.length+1) (.un w):=by
 obtain⟨k,h',e,o,c,n,rfl⟩:=dA.app1 (P':=λj=>(b<=j.nat/\bC v≠some j)/\j.nat<h.next.nat) (bt:=bt) (x:=x) (cs:=cs) r s hb t (λj d a=>⟨a,d⟩)
  (s z (Nw.refl h) λj d a=>⟨⟨u j d a,d⟩,λq=>q⟩) (λj _ a=>a.1.2) y
 refine⟨_,h',e,o.mono s λj _ a=>⟨a.1.1,λq=>?_⟩,c,n,rfl⟩;injection q with q;have:=congrArg Pos.nat q
 rw[Pos.fG]at this;have:=a.2;omega
theorem gK.nil(b:Nat)(E:El α)(el:TypeId)(w:Nat)(h:Hp):gK b E el w h .aO []:=dA.nil _ _ _ _ _ _
theorem gK.nw(r:gK b E el w h v l)(a:E.Stable)(c:Nw h h'):gK b E el w h' v l:=dA.nw r a c
theorem gK.rws(r:gK b E el w h v l)(a:E.Stable):Rws (λj=>b<=j.nat) E w h v l:=dA.rows r a (λ_ _ q=>q.1) λ_ q _=>q
theorem gK.lower{b':Nat}(r:gK b E el w h v l)(hb:b'<=b)(d:E.Stable:=by exact aK _):gK b' E el w h v l:=by
 obtain⟨c,a,n,s⟩:=r;exact⟨c,a.mono λ_ _ e=>d e (Nw.refl h) λj _ q=>⟨⟨W! hb q.1,q.2⟩,λq=>q⟩,n,s.base λj k=>W! hb (s.eY k).1⟩
theorem Nw.own(c:Nw g h)(d:Ch (λj=>bC v=some j) h h')(a:∀j,bC v=some j->g.next.nat<=j.nat):Nw g h':=c.then d λj e q=>by have:=a j q;omega
end
section
variable{h h':Hp}{i:Pos}{o:Ob}{α:Type}
theorem Kn.bump(k:Kn h i o)(n:Nat):Kn (aH n h) i o:=⟨k.1,by rw[xg];have:=k.2;omega⟩
theorem Nw.bump(n:Nat)(h:Hp):Nw h (aH n h):=Ch.aH _ n h
theorem dA.ao0{b bt:Nat}{c:α->List V}{el:TypeId}{w:Nat}{v:V}{l:List α}{x:α}(r:dA b (λ_=>False) (flat c) el w h v l)(hb:b<=h.next.nat)(k:(c x).length=w)(s:(l.length+1)*bt<=140737488355328):
  ∃a h',bK el w bt v (.slice h.next 0 1 (.kn 1)) (h.new (O (N el true) (c x)))=D a h'/\dA b (λ_=>False) (flat c) el w h' a (l++ [x])/\Ch (λj=>bC v=some j) h h'/\h'.next.nat=h.next.nat+2/\(∀j,bC a=some j->h.next.nat<=j.nat):=by
 obtain⟨a,h',e,o,d,n,rfl⟩:=dA.app1 (P':=λ_=>False) (bt:=bt) (x:=x) r (aK _) hb k (λ_ _ q=>q) rfl (λ_ _ q=>q.elim) s;exact⟨_,h',e,o,d,n,λj q=>by injection q with q;rw[<-q,Pos.fG];omega⟩
theorem dA.aLp{b:Nat}{c:α->List V}{el:TypeId}{w:Nat}{v:V}{l:List α}(r:dA b (λ_=>False) (flat c) el w h v l):Rws (λ_=>True) (flat c) w h v l:=r.rows (aK _) (λ_ _ q=>q.elim) λ_ _ _=>trivial
end
section
variable{h:Hp}{i:Pos}{α:Type}
theorem All2.flat{P:Pos->Prop}{c:α->List V}{l:List α}{d:List (List V)}(a:All2 (Go.Vm.flat c P h) l d):d=l.map c:=by
 induction a with
 |nil=>rfl
 |cons r _ e=>rw[e,List.map_cons];rw[show _=c _ from r]
theorem dA.open{b:Nat}{P:Pos->Prop}{c:α->List V}{el:TypeId}{w:Nat}{v:V}{l:List α}(r:dA b P (flat c) el w h v l)(hl:l≠ []):
  ∃i f,v=.slice i 0 l.length (.un w)/\b<=i.nat/\Kn h i (O (N el f) (l.map c).flatten):=by
 obtain⟨d,a,n,s⟩:=r;rcases s.is with⟨h0,_⟩|⟨i,e,hb,hi,f,k⟩
 ·exact absurd (G!.1 h0) hl
 ·exact⟨i,f,e,hb,by rw[<-a.flat];exact⟨k,hi⟩⟩
theorem dA.mk{b:Nat}{P:Pos->Prop}{c:α->List V}{el:TypeId}{w:Nat}{l:List α}{f:Bool}(n:∀x,(c x).length=w)(hb:b<=i.nat)(k:Kn h i (O (N el f) (l.map c).flatten)):dA b P (flat c) el w h (.slice i 0 l.length (.un w)) l:=by
 have e:∀d∈l.map c,d.length=w:=λd hd=>by obtain⟨x,_,rfl⟩:=U!.1 hd;exact n x
 refine⟨l.map c,?_,e,by rw[iQ e,List.length_map],.inr ⟨i,rfl,hb,k.2,f,k.1⟩⟩;clear k e;induction l with
 |nil=>exact .nil
 |cons a l q=>exact .cons rfl q
theorem LD{c:α->V}(l:List α):(l.map λx=> [c x]).flatten=l.map c:=by
 induction l with
 |nil=>rfl
 |cons a l d=>simp[d]
def ltI(a b:Int):Bool:=decide (a<b)
def aaB(lt:α->α->Bool):Nat->List α->List α
 |0,l=>l
 |j+1,l=>(match l[j+1]?,l[j]? with
  |some x,some y=>(match lt x y with|true=>aaB lt j ((l.set (j+1) y).set j x)|false=>l)
  |_,_=>l)
def iW(lt:α->α->Bool):Nat->List α->List α
 |0,l=>l
 |i+1,l=>aaB lt i (iW lt i l)
theorem aut(lt:α->α->Bool):∀(j:Nat) (l:List α),(aaB lt j l).length=l.length
 |0,l=>rfl
 |j+1,l=>by
  unfold aaB;split
  ·split
   ·rw[aut lt j];simp
   ·rfl
  ·rfl
theorem AX(lt:α->α->Bool):∀(i:Nat) (l:List α),(iW lt i l).length=l.length
 |0,l=>rfl
 |i+1,l=>by show(aaB lt i (iW lt i l)).length=_;rw[aut,AX lt i]
theorem Gl(lt:α->α->Bool){l:List α}(h:l.length<=1):iW lt l.length l=l:=by
 match l,h with
 | [],_=>rfl
 | [a],_=>rfl
end
theorem Oc.out{A B:F->Hp->Prop}{o:Out}{Q:Out->Prop}(a:Oc A B o)(c:∀fr h,A fr h->Q (.nor fr h))(d:∀fr h,B fr h->Q (.ret fr h)):Q o:=by
 cases o with
 |nor fr h=>exact c fr h a
 |ret fr h=>exact d fr h a
 |ex i fr h=>exact a.elim
 |bad=>exact a.elim
theorem atl{c:EqC}{h:Hp}(a b:List Nat):aI .lss c (H a) (H b) h=D (K (lK a b)) h:=by
 show fU (lK a b) h=_;rw[gJ]
theorem ayA(a b:F->Hp->Out)(fr:F)(h:Hp):aT (.const (.bool false)) a b fr h=b fr h:=(rfl)
theorem ayz(a b:F->Hp->Out)(fr:F)(h:Hp):aT (.const (.bool true)) a b fr h=a fr h:=(rfl)
theorem aIg{Q:Out->Prop}{s:List Nat}{n:Nat}{k:V->Hp->Out}{h:Hp}{r:IntKind}(hl:v! n s.length=true)(d:(s.all λa=>w! a 8)=true)(hb:((s.drop 1).all λa=>w! 1 a)=true)(q:∀a:Nat,a<=8->(0<n->1<=a)->Q (k (Y .u8 (a:Int)) h)):Q (aA (kG (H s) (Y r (n:Int)) h) k):=by
 have c:n<s.length:=by simpa[D!]using hl
 rw[QB (F! c),aoW];refine q _ (I! (P!.1 d _ (N! c))) λh0=>I! (P!.1 hb _ ?_);have e:(s.drop 1)[n - 1]?=some s[n]:=by rw[t!,show 1+(n - 1)=n by omega];exact F! c
 exact L! e
section
variable{h h':Hp}{i:Pos}{α:Type}
theorem akg{w f:Nat}{y:V}:∀{cs:List (List V)} {k:Nat} {c:List V},(∀c∈cs,c.length=w)->cs[k]?=some c->f<w->cs.flatten.set (k*w+f) y=(cs.set k (c.set f y)).flatten
 | [],k,c,_,e,_=>by simp at e
 |d::cs,0,c,a,e,n=>by
  simp at e;subst e;have hd:=a d (by simp);rw[V!,i!,b!,List.set_append_left _ _ (by omega)];rfl
 |d::cs,k+1,c,a,e,n=>by
  have hd:=a d (by simp);rw[b!,List.set_append_right _ _ (by rw[hd,c!];omega),hd,show(k+1)*w+f - w=k*w+f by rw[c!];omega];rw[akg (λc q=>a c (by simp[q])) (by simpa using e) n];rfl
def aho(v:V)(n:Nat):Prop:=(v=.aO/\n=0)\/∃i,v=.slice i 0 n (.kn n)
theorem aoZ{P P':Pos->Prop}{c:α->List V}{el:TypeId}{w bt:Nat}{v x:V}{l m:List α}(r:Rws P (flat c) w h v l)(J:aho v l.length)(t:Rws P' (flat c) w h x m)(M:m≠ [])(z:(l.length+m.length)*bt<=140737488355328):
  ∃C h',bK el w bt v x h=D C h'/\dA h.next.nat (λ_=>False) (flat c) el w h' C (l++m)/\Nw h h':=by
 obtain⟨k,a,Z,s,-,-⟩:=r;obtain⟨u,b,hd,t,-,-⟩:=t;have W:0<m.length:=List.length_pos_iff.2 M;have ow:dA h.next.nat (λ_=>False) (flat c) el w (h.new (O (N el false) (k.flatten++u.flatten))) (.slice h.next 0 (l.length+m.length) (.un w)) (l++m):=by
  refine⟨k++u,a.append b,λd y=>(A!.1 y).elim (Z d) (hd d),?_⟩;rw[k!,a!];exact⟨by rw[a!,s.len,t.len,Y!],.inr ⟨h.next,rfl,r! _,by rw[bI];omega,false,dX _ _⟩⟩
 refine⟨.slice h.next 0 (l.length+m.length) (.un w),_,?_,ow,Nw.new _ _⟩;unfold bK;rw[t.src];rcases J with⟨rfl,h0⟩|⟨i,rfl⟩
 ·have I:k.flatten= []:=G!.1 (by rw[s.len,h0];simp);rw[I,R!,h0,i!];cases n:m.length with
  |zero=>omega
  |succ q=>simp only[];rw[lU (by rw[h0,i!,n]at z;exact z)]
 ·rcases s.is with⟨h0,e|e⟩|⟨i',o,cp,wr,all,e,hi,L,G⟩
  ·cases e
  ·cases e
  ·cases e;have B:gQ (l.length*w) (eP 0 all)=some k.flatten:=qw G s.len;cases n:m.length with
   |zero=>omega
   |succ q=>
    simp only[];rw[dL L];simp only[dF];rw[show w! (l.length+(q+1)) l.length=false by rw[<-Q!,a?];omega];simp only[B];rw[lU (by rw[<-n];exact z)]
end
theorem aol(h:Hp)(i:Pos)(o o':Option Ob):(h.put i o).put i o'=h.put i o':=by
 show(⟨_,_⟩:Hp)=⟨_,_⟩;rw[show(h.put i o).t=h.t.set o i from rfl,T.set_set];rfl
theorem ab4{h:Hp}(a b:Bool):aI .neq .bool (K a) (K b) h=D (K (decide ¬a=b)) h:=by cases a<;>cases b<;>rfl
section
variable{h h':Hp}
theorem alE:∀{vs l:List V},vs.length<=l.length->QA vs l=some (vs++l.drop vs.length)
 | [],l,_=>rfl
 |v::vs,[],e=>by simp at e
 |v::vs,a::l,e=>by
  show y! (motive:=λ_=>Option (List V)) (QA vs l) none (λr=>some (v::r))=_;rw[alE (vs:=vs) (l:=l) (by simpa using e)];rfl
theorem EJ:∀{n:Nat} {vs l:List V},n+vs.length<=l.length->jh n vs l=some (l.take n++vs++l.drop (n+vs.length))
 |0,vs,l,e=>by
  rw[List.take_zero,R!,i!];exact alE (by omega)
 |n+1,vs,[],e=>by simp at e
 |n+1,vs,a::l,e=>by
  show y! (motive:=λ_=>Option (List V)) (jh n vs l) none (λr=>some (a::r))=_;rw[EJ (n:=n) (vs:=vs) (l:=l) (by simp at e;omega),show n+1+vs.length=(n+vs.length)+1 by omega];simp
theorem aBb{el:TypeId}{f:Bool}{w bt:Nat}{im:Pos}{d:List (List V)}{rest:List V}{i:Nat}(J:Kn h im (O (N el f) (d.flatten++rest)))(I:∀c∈d,c.length=w)(aa:0<w)(hi:i<d.length):
  ∃x h' mid,eU w (.slice im 0 d.length (.un w)) (some (Y U ((i:Int)+1))) none none h=D x h/\bK el w bt (.slice im 0 i (.un w)) x h=D (.slice im 0 (d.length - 1) (.un w)) h'/\
   Kn h' im (O (N el f) ((d.eraseIdx i).flatten++mid++rest))/\mid.length=w/\Ch (λj=>j=im) h h':=by
 have hl:=iQ I;have u:eU w (.slice im 0 d.length (.un w)) (some (Y U ((i:Int)+1))) none none h=(match v! (i+1) d.length with
   |true=>R.ok (.slice im ((i+1)*w) (d.length - (i+1)) (.un w)) h
   |false=>D .emp h):=by
  show(match w! d.length d.length,w! (i+1) d.length,n! w w with
     |true,true,true=>(match v! (i+1) d.length with
      |true=>fA (0+(i+1)*w) λq=>fA (d.length - (i+1)) λn=>R.ok (V.slice im q n (.un w)) h
      |false=>D .emp h)
     |_,_,_=>R.bad)=_
  rw[J! (r! _),J! (show i+1<=d.length from hi),g!];simp only[dF,i!]
 have ab:∀c∈d.drop (i+1),c.length=w:=λc L=>I c (K! L);have s:=iQ ab;rw[o!]at s;by_cases W:i+1<d.length
 ·rw[show v! (i+1) d.length=true by rw[D!];exact W]at u;have ac:(d.length - (i+1))*w+(i+1)*w=d.length*w:=by rw[<-Y!];congr 1;omega
  have B:(i+1)*w=i*w+w:=c! i w;have ad:0<(d.length - (i+1))*w:=Nat.mul_pos (by omega) aa;have G:∀k:Nat->List V->R V,wK w (.slice im ((i+1)*w) (d.length - (i+1)) (.un w)) h k=k (d.length - (i+1)) (d.drop (i+1)).flatten:=λk=>by
   show dQ h im _=_;rw[dL (wr:=N el f) (all:=d.flatten++rest) (by rw[J.1];rfl),qw (cs:=(d.drop (i+1)).flatten) (λq hq=>?_) (by rw[s])];rw[List.getElem?_append_left (by omega),<-aeI (i+1) I,t!]
  obtain⟨r,y⟩:∃r,r=(d.flatten++rest).take (i*w)++(d.drop (i+1)).flatten++(d.flatten++rest).drop (i*w+(d.drop (i+1)).flatten.length):=⟨_,rfl⟩
  have C:jh (0+i*w) (d.drop (i+1)).flatten (d.flatten++rest)=some r:=by
   rw[i!,y];exact EJ (by rw[s,a!];omega)
  have Z:gQ (i*w) (eP 0 (d.flatten++rest))=some ((d.flatten++rest).take (i*w)):=by rw[jb,l!,F9 (by rw[a!];omega)]
  have z:∃a t,eP (i*w) (eP 0 (d.flatten++rest))=a::t:=by
   rw[jb,jb,l!];have:((d.flatten++rest).drop (i*w)).length≠0:=by rw[o!,a!];omega
   match hq:(d.flatten++rest).drop (i*w) with
   | []=>rw[hq]at this;simp at this
   |a::t=>exact⟨a,t,rfl⟩
  obtain⟨a,t,z⟩:=z;refine⟨_,h.put im (some (O (N el f) r)),d.flatten.drop (d.length*w - w),u,?_,?_,by rw[o!];omega,Ch.put _ _ rfl⟩
  ·unfold bK;rw[G];obtain⟨m,hm⟩:∃m,d.length - (i+1)=m+1:=⟨d.length - (i+1) - 1,by omega⟩
   rw[hm];simp only[];rw[dL (wr:=N el f) (all:=d.flatten++rest) (by rw[J.1];rfl)];simp only[dF,g!,Z,z,C];rw[show i+(m+1)=d.length - 1 by omega]
  ·have e:r=(d.eraseIdx i).flatten++d.flatten.drop (d.length*w - w)++rest:=by
    rw[y,List.take_append_of_le_length (by omega),U2 i I,x!,k!,s,List.drop_append_of_le_length (by omega)];rw[show i*w+(d.length - (i+1))*w=d.length*w - w by omega];simp[j!]
   rw[<-e];exact J.put _
 ·have M:i+1=d.length:=by omega
  rw[show v! (i+1) d.length=false by cases hb:v! (i+1) d.length;rfl;rw[D!]at hb;omega]at u;have B:(i+1)*w=i*w+w:=c! i w;refine⟨.emp,h,(d.drop i).flatten,u,?_,?_,?_,Ch.refl _ _⟩
  ·show R.ok (V.slice im 0 i (.un w)) h=_;rw[show i=d.length - 1 by omega]
  ·have e:(d.eraseIdx i).flatten++(d.drop i).flatten=d.flatten:=by
    rw[x!,M,List.drop_length,B!,<-k!,List.take_append_drop]
   rw[e];exact J
  ·rw[iQ λc L=>I c (K! L),o!,show d.length - i=1 by omega,Nat.one_mul]
theorem aCT{el:TypeId}{f:Bool}{w n:Nat}{im:Pos}{cs mid rest zs:List V}(e:Kn h im (O (N el f) (cs++mid++rest)))(r:cs.length=n*w)(z:mid.length=w)(q:zs.length=w)(y:0<w):
  ∃x h' u,JY w (.slice im 0 n (.un w)) (Y U (n:Int)) (Y U ((n:Int)+1)) h=D x h/\SC zs x h=D u h'/\Kn h' im (O (N el f) (cs++(zs++rest)))/\Ch (λj=>j=im) h h':=by
 have a:n*w+w<=(cs++mid++rest).length:=by rw[a!,a!];omega
 have k:(n+1)*w=n*w+w:=c! n w;have e1:JY w (.slice im 0 n (.un w)) (Y U (n:Int)) (Y U ((n:Int)+1)) h=D (.slice im (n*w) 1 (.un w)) h:=by
  show(match w! (n+1) n with
   |true=>eU w (.slice im 0 n (.un w)) (some (Y U (n:Int))) (some (Y U ((n:Int)+1))) none h
   |false=>ZO w im 0 w n (n+1) h)=_
  rw[show w! (n+1) n=false by rw[<-Q!,a?];omega];show dQ h im _=_;rw[dL (wr:=N el f) (all:=cs++mid++rest) (by rw[e.1];rfl),jb,l!,F9 (by omega)];rw[show v! n (n+1)=true by rw[D!];omega,g!,show n! w 0=false by cases hb:n! w 0;rfl;have:=Nat.eq_of_beq_eq_true hb;omega];simp only[dF,i!];rw[show n+1 - n=1 by omega]
 have c:jh (n*w) (times 1 zs) (cs++mid++rest)=some (cs++(zs++rest)):=by
  have s:times 1 zs=zs:=by show zs++times 0 zs=zs;exact B! _
  rw[s,EJ (by rw[q];exact a),q];congr 1;rw[j! cs mid rest,<-r,T!,<-j!,j! cs zs];rw[show cs.length+w=cs.length+mid.length by omega,<-C!,j! cs mid rest,q!,q!]
 refine⟨_,h.put im (some (O (N el f) (cs++(zs++rest)))),V.undef,e1,?_,e.put _,Ch.put _ _ rfl⟩;show dQ h im (λwr cs=>(match wr with
   |N t f=>(match jh (n*w) (times 1 zs) cs with|some d=>R.ok V.undef (h.put im (some (O (N t f) d)))|none=>.bad)
   | .ro=>.bad))=_
 rw[dL (wr:=N el f) (all:=cs++mid++rest) (by rw[e.1];rfl)];simp only[c]
end
theorem vvB:type_of% vvA/\type_of% vqK/\type_of% @ayA/\type_of% @ayz:=⟨vvA,vqK,@ayA,@ayz⟩
theorem qK0{p:Prop}(h:p:=by simp only[vvB,seval]):p:=h
theorem qK1{p:Prop}(h:p:=by simp only[vvB,seval]<;>rfl):p:=h
theorem qK2{p q:Prop}(f:q)(h:q->p:=by intro f;simp only[vvB,seval,f]):p:=h f
theorem qK3{p q:Prop}(f:q)(h:q->p:=by intro f;simp only[vvB,seval,f]<;>rfl):p:=h f
theorem qT0{p:Prop}(h:p:=by simp only[cO,vvB,seval,dn]<;>rfl):p:=h
theorem qT1{p q:Prop}(f:q)(h:q->p:=by intro f;simp only[cO,vvB,seval,f,dn]<;>rfl):p:=h f
theorem mkW(h:Hp)(o:Ob):∃h',h'=h.new o/\Nw h h'/\Kn h' h.next o:=⟨_,rfl,Nw.new _ _,Kn.new _ _⟩
end Go.Vm
namespace Go.Im
structure Bx where
 id:Int
 name:List Nat
 par:Int
 valid:Int
 next:Int
 mod:Int
structure Ml where
 id:Int
 thread:Int
 text:List Nat
 at_:Int
 keys:List (List Nat)
 mem:List (Int×Int)
 mod:Int
 born:Int
structure En where
 mod:Int
 kind:Int
 id:Int
 how:Int
structure Acc where
 clock:Int
 boxes:List Bx
 mails:List Ml
 ents:List En
 floor:Int
 lastBox:Int
 lastId:Int
 octets:Int
abbrev iV(n:Int):V:=Y U n
def gB(b:Bx):List V:= [iV b.id,H b.name,iV b.par,iV b.valid,iV b.next,iV b.mod]
def iR(e:En):List V:= [iV e.mod,iV e.kind,iV e.id,iV e.how]
def dY(m:Int×Int):List V:= [iV m.1,iV m.2]
def fF(s:List Nat):List V:= [H s]
def fH(n:Int):List V:= [iV n]
def dM(m:Ml)(vk vm:V):List V:= [iV m.id,iV m.thread,H m.text,iV m.at_,vk,vm,iV m.mod,iV m.born]
def kH:El Ml:=λP h m cs=>∃vk vm,cs=dM m vk vm/\Rws P (flat fF) 1 h vk m.keys/\Rws P (flat dY) 2 h vm m.mem
theorem dB:kH.Stable:=λ⟨vk,vm,e,a,b⟩ c d=>⟨vk,vm,e,a.ch (aK _) c d,b.ch (aK _) c d⟩
def stC(A:Acc)(ib:Pos)(cb:Cap)(vm:V)(pl:Pos):List V:=
 [H [117],H [112],iV 1000,iV 100,iV 1048576,iV 1073741824,iV 1073741824,iV 10000,iV 200,iV A.clock,.slice ib 0 A.boxes.length cb,vm,X pl 0,iV A.lastBox,iV A.lastId,iV A.octets]
def aGB(tM:TypeId)(I:Pos->Prop)(h:Hp)(v:V)(l:List Ml):Prop:=
 ∃a,All2 (kH I h) l a/\(∀c∈a,c.length=8)/\((l= []/\v=.aO)\/∃i f rest,v=.slice i 0 l.length (.un 8)/\Kn h i (O (N tM f) (a.flatten++rest)))
structure AccR (tS tL tB tM tE:TypeId) (h:Hp) (F:Pos->Prop) (ps:Pos) (A:Acc) (pl ib:Pos) (cb:Cap) (fb:Bool) (vm vl:V) (I:Pos->Prop):Prop where
 st:Kn h ps (O (N tS true) (stC A ib cb vm pl))
 lg:Kn h pl (O (N tL true) [iV 10000,vl,iV A.floor])
 bx:Kn h ib (O (N tB fb) (A.boxes.map gB).flatten)
 cap:yN 6 (.slice ib 0 A.boxes.length cb)
 ml:aGB tM I h vm A.mails
 en:dA 0 (λ_=>False) (flat iR) tE 4 h vl A.ents
 ne:ps≠pl/\ps≠ib/\pl≠ib
 nm:∀j,bC vm=some j->j≠ps/\j≠pl/\j≠ib/\bC vl≠some j
 nl:∀j,bC vl=some j->j≠ps/\j≠pl/\j≠ib
 inn:∀j,I j->F j/\j≠ps/\j≠pl/\j≠ib/\bC vm≠some j/\bC vl≠some j
 foot:F ps/\F pl/\F ib/\(∀j,bC vm=some j->F j)/\∀j,bC vl=some j->F j
 lt:∀j,F j->j.nat<h.next.nat
 enil:A.ents= []->vl=.aO
structure Acc.Small (A:Acc):Prop where
 clock:0<=A.clock/\A.clock<1000000
 boxes:0<A.boxes.length/\A.boxes.length<=1000
 mails:A.mails.length<=1000
 ents:A.ents.length<=9000
 each:∀m∈A.mails,m.keys.length<=1000/\m.mem.length<=1000
end Go.Im
namespace Go.Proofs.Im
def wds:List (List Nat)->Wds
 | []=>.nil
 |t::l=>.cons 1 t .nil (wds l)
def ash:List Wo->Wds
 | []=>.nil
 | .a t::l=>.cons 1 t .nil (ash l)
 | .l s::l=>.cons 3 [] (wds s) (ash l)
def aan(l:List (List Wo)):List Ln.Got:=l.map λw=>⟨1,ash w⟩
section
variable{P:Pos->Prop}{h:Hp}{p:Pos}
theorem aB5:∀l:List (List Nat),WAt P h (wds l) (wC l)
 | []=>rfl
 |t::l=>⟨.aO,[],wC l,rfl,Ow.nil _ _ _ _,λj e=>(by cases e),rfl,aB5 l⟩
theorem aod:∀l:List (List Nat),(wds l).len=l.length
 | []=>rfl
 |_::l=>congrArg (· +1) (aod l)
theorem aB9:∀l:List (List Nat),(wC l).length=l.length*3
 | []=>rfl
 |_::l=>by rw[e!,c!,<-aB9 l];rfl
theorem ZI:∀l:List Wo,(ash l).len=l.length
 | []=>rfl
 | .a _::l=>congrArg (· +1) (ZI l)
 | .l _::l=>congrArg (· +1) (ZI l)
theorem atO:∀(l:List Wo) (p:Pos),(lC p l).length=l.length*3
 | [],_=>rfl
 | .a _::l,p=>by rw[e!,c!,<-atO l p];rfl
 | .l _::l,p=>by rw[e!,c!,<-atO l p.succ];rfl
theorem aCJ:∀(l:List (List Wo)) (p:Pos),(gC p l).length=l.length*2
 | [],_=>rfl
 |x::l,p=>by rw[e!,c!,<-aCJ l (adv p x).succ];rfl
def Sat(P:Pos->Prop)(h:Hp):Pos->List Ob->Prop
 |_,[]=>True
 |p,o::l=>(Kn h p o/\P p)/\Sat P h p.succ l
theorem Sat.mk:∀{l:List Ob} {h:Hp},(∀j:Pos,h.next.nat<=j.nat->j.nat<h.next.nat+l.length->P j)->Sat P (mkF h l) h.next l/\Nw h (mkF h l)
 | [],h,_=>⟨trivial,Nw.refl h⟩
 |o::l,h,d=>by
  have e:(h.new o).next.nat=h.next.nat+1:=Pos.fG _;obtain⟨s,c⟩:=Sat.mk (l:=l) (h:=h.new o) λj a b=>d j (by omega) (by simp only[e!];omega);exact⟨⟨⟨(Kn.new h o).nw c,d _ (r! _) (by simp)⟩,s⟩,(Nw.new h o).trans c⟩
theorem aoe:∀{l:List Wo} {p:Pos} {r:List Ob},Sat P h p (lN l++r)->WAt P h (ash l) (lC p l)/\Sat P h (adv p l) r
 | [],_,_,s=>⟨rfl,s⟩
 | .a t::l,p,r,s=>by
  obtain⟨a,b⟩:=aoe (l:=l) s;exact⟨⟨.aO,[],lC p l,rfl,Ow.nil _ _ _ _,λj e=>(by cases e),rfl,a⟩,b⟩
 | .l w::l,p,r,s=>by
  obtain⟨⟨k,c⟩,s2⟩:=s;obtain⟨a,b⟩:=aoe (l:=l) (p:=p.succ) s2;exact⟨⟨.slice p 0 w.length (.un 3),wC w,lC p.succ l,rfl,⟨by rw[aod,aB9],.inr ⟨p,by rw[aod],z! _,k.2,false,k.1⟩⟩,λj e=>(by cases e;exact c),aB5 w,a⟩,b⟩
theorem aym:∀{l:List (List Wo)} {p:Pos} {r:List Ob},Sat P h p (tO p l++r)->GAt P h (aan l) (gC p l)/\Sat P h (aeN p l) r
 | [],_,_,s=>⟨rfl,s⟩
 |x::l,p,r,s=>by
  rw[show tO p (x::l)++r=lN x++(O (N 149 false) (lC p x)::(tO (adv p x).succ l++r)) by simp[tO]]at s;obtain⟨a,⟨k,d⟩,s2⟩:=aoe s;obtain⟨b,c⟩:=aym (l:=l) s2;exact⟨⟨.slice (adv p x) 0 x.length (.un 3),gC (adv p x).succ l,rfl,⟨lC p x,⟨by rw[ZI,atO],.inr ⟨adv p x,by rw[ZI],z! _,k.2,false,k.1⟩⟩,λj e=>(by cases e;exact d),a⟩,b⟩,c⟩
def Fed(s:List Nat)(gs:List Ln.Got):Prop:=s.length<=1000/\gs.length<=1000/\∀h:Hp,Ik.aJ<=h.next.nat->
 ∃v a,Ik.ao6 [X h.next 0,.slice h.next.succ 0 s.length (.un 1)] ((h.new Ik.rdO).new (.bytes (bys s)))=D v a/\Nw h a/\Told (λj=>h.next.nat<=j.nat/\j.nat<a.next.nat) a v gs
theorem Fed.mk{s:List Nat}{l:List (List Wo)}(q:s.length<=1000)(hl:l.length<=1000)(e:aag aof s=some l):Fed s (aan l):=by
 refine⟨q,by simpa[aan]using hl,λh hG=>?_⟩;have f:=(Kn.new h Ik.rdO).add (.bytes (bys s))
 have i:=Kn.new (h.new Ik.rdO) (.bytes (bys s));have t:h.next.succ.nat=h.next.nat+1:=Pos.fG _;have r:(h.new Ik.rdO).next.nat=h.next.nat+1:=bI _ _;have u:((h.new Ik.rdO).new (.bytes (bys s))).next.nat=h.next.nat+2:=by rw[bI,r]
 have n:h.next≠h.next.succ:=λe=>by have:=congrArg Pos.nat e;omega
 generalize hh:(h.new Ik.rdO).new (.bytes (bys s))=d at*;obtain⟨st,c⟩:=Sat.mk (l:=Z8 d.next l) (h:=d) (P:=λj=>h.next.nat<=j.nat/\j.nat<(mkF d (Z8 d.next l)).next.nat) λj a b=>by rw[aad];exact⟨by omega,b⟩
 have m:Nw h d:=by rw[<-hh];exact(Nw.new _ _).trans (Nw.new _ _)
 refine⟨_,_,aLM hG f.2 (by omega) i.2 n f.1 i.1 e,m.trans c,?_⟩;obtain⟨g,⟨k,o⟩,-⟩:=aym (l:=l) st;exact⟨gC d.next l,⟨by rw[aCJ];simp[aan],.inr ⟨aeN d.next l,by simp[aan,rcP],z! _,k.2,false,k.1⟩⟩,λj e=>by cases e;exact o,g⟩
theorem aN2:Fed Ik.fsA (aan Ik.flA):=Fed.mk (by decide) (by decide) Ik.lookA
end
end Go.Proofs.Im
