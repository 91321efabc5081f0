/- Lemmas. No conditions. -/
import Derived.Test.YtpgppmioigacoaaGreatDoorSAN
import Derived.Test.YtpgppmioigacoaaGreatDoorSAO
import Derived.Test.YtpgppmioigacoaaGreatDoorSAI
import Derived.Test.YtpgppmioigacoaaGreatDoorSAJ
set_option linter.all false
set_option maxRecDepth 100000
open List renaming length_append→a!,flatten_cons→b!,getElem?_eq_some_iff→d!,length_cons→e!,append_assoc→j!,flatten_append→k!,drop_zero→l!,length_drop→o!,drop_left→q!,getElem?_drop→t!,findIdx?_eq_some_iff_getElem→u!,eraseIdx_eq_take_drop_succ→x!,append_nil→A!,drop_drop→B!,findIdx?_eq_none_iff→D!,getElem?_eq_getElem→E!,length_eq_zero_iff→F!,mem_of_mem_drop→J!,mem_of_getElem?→K!,getElem_mem→M!,any_eq_true→N!,all_eq_true→O!,nil_append→Q!,mem_append→R!,take_left→T!,mem_map→U!
open Nat renaming succ_mul→c!,beq_refl→g!,zero_add→i!,beq→n!,ne_of_beq_eq_false→p!,le_refl→r!,blt→v!,ble→w!,zero_le→z!,blt_eq→C!,add_comm→G!,le_of_ble_eq_true→H!,ble_eq_true_of_le→I!,zero_mul→V!,le_trans→W!,add_mul→Y!,ble_eq→Z!
open Go.Vm.Pos renaming of→h!
open Option renaming casesOn→y!
open Bool renaming or_eq_false_iff→L!,not_eq_true→P!,eq_iff_iff→S!
open Go.Vm.V renaming int→Y,ptr→X,bool→K,str→H
open Go.IntKind renaming i64→U
open Go.Vm.Ob renaming cells→O
open Go.Vm.Wr renaming rw→N
open Go.Vm.R renaming ok→D
noncomputable section
open Go Go.Proofs Go.Vm Go.Ln Go.Proofs.Ik
namespace Go.Proofs.Ik
def aoU:Tab:=aN6::(List.range 20).map aN3
def okS:∀k:Nat,k<20->amA (aN3 k)=true
 |0,_=>aQ1
 |1,_=>aQ0
 |2,_=>aQZ
 |3,_=>aQY
 |4,_=>aQX
 |5,_=>aQW
 |6,_=>aQV
 |7,_=>aQU
 |8,_=>aQT
 |9,_=>aQS
 |10,_=>aQR
 |11,_=>aQQ
 |12,_=>aQP
 |13,_=>aQO
 |14,_=>aQN
 |15,_=>aQM
 |16,_=>aQL
 |17,_=>aQK
 |18,_=>aQJ
 |19,_=>aQI
 |_+20,h=>absurd h (by omega)
def aIB:∀e∈aoU,amA e=true:=λe a=>by
 unfold aoU at a;simp only[List.mem_cons,U!,List.mem_range]at a;rcases a with rfl|⟨k,hk,rfl⟩
 ·exact okA
 ·exact okS k hk
def ap1:Fun:=aav aoU
def aMv:fu 41 ap1:=avA aIB
def lookA:aaj aoU fsA=some flA:=kR
def aPR:∀k:Nat,k<20->aaj aoU (auf k)=some (aoW k)
 |0,_=>by kernel_rfl
 |1,_=>by kernel_rfl
 |2,_=>by kernel_rfl
 |3,_=>by kernel_rfl
 |4,_=>by kernel_rfl
 |5,_=>by kernel_rfl
 |6,_=>by kernel_rfl
 |7,_=>by kernel_rfl
 |8,_=>by kernel_rfl
 |9,_=>by kernel_rfl
 |10,_=>by kernel_rfl
 |11,_=>by kernel_rfl
 |12,_=>by kernel_rfl
 |13,_=>by kernel_rfl
 |14,_=>by kernel_rfl
 |15,_=>by kernel_rfl
 |16,_=>by kernel_rfl
 |17,_=>by kernel_rfl
 |18,_=>by kernel_rfl
 |19,_=>by kernel_rfl
 |_+20,h=>absurd h (by omega)
end Go.Proofs.Ik
namespace Go.Vm
section
variable{h h' g f:Hp}{i j:Pos}{o o':Ob}{S:Pos->Prop}{P:Program}
abbrev Nw(h h':Hp):Prop:=Ch (λ_=>False) h h'
def Nw.refl(h:Hp):Nw h h:=Ch.refl _ _
def Nw.trans(a:Nw h g)(b:Nw g f):Nw h f:=Ch.trans a b λ_ _ q=>q
def Nw.new(h:Hp)(o:Ob):Nw h (h.new o):=Ch.new _ _ _
def Nw.ch(c:Nw h g):Ch S h g:=c.mono λ_ _ q=>q.elim
def Nw.put(c:Nw h g)(hi:h.next.nat<=i.nat)(x:Option Ob):Nw h (g.put i x):=
 Ch.trans c (Ch.put (S:=λj=>j=i) g x rfl) λj hj q=>by rw[q]at hj;omega
def Nw.then(c:Nw h g)(d:Ch S g f)(a:∀j:Pos,j.nat<h.next.nat->S j->False):Nw h f:=Ch.trans c d a
def Ch.nw(c:Ch S h g)(d:Nw g f):Ch S h f:=c.trans d λ_ _ q=>q.elim
def Kn(h:Hp)(i:Pos)(o:Ob):Prop:=h.get i=some o/\i.nat<h.next.nat
def Kn.new(h:Hp)(o:Ob):Kn (h.new o) h.next o:=⟨dU _ _,by rw[bG];omega⟩
def Kn.ch(k:Kn h i o)(c:Ch S h g)(a:¬S i):Kn g i o:=⟨(c.get i k.2 a).trans k.1,Nat.lt_of_lt_of_le k.2 c.next⟩
def Kn.nw(k:Kn h i o)(c:Nw h g):Kn g i o:=k.ch c λq=>q
def Kn.add(k:Kn h i o)(o':Ob):Kn (h.new o') i o:=k.nw (Nw.new _ _)
def Kn.put(k:Kn h i o)(o':Ob):Kn (h.put i (some o')) i o':=⟨jZ _ _ _,k.2⟩
def Kn.Uf(k:Kn h i o)(hn:i≠j)(x:Option Ob):Kn (h.put j x) i o:=⟨(Go.Vm.Uf h (aB8 hn) x).trans k.1,k.2⟩
def Kn.ld{w:Wr}{cs:List V}{q:Nat}{x:V}(k:Kn h i (O w cs))(a:cs[q]?=some x):aG (X i q) h=D x h:=by
 rw[D8 k.1,a]
def Kn.ldN{w:Wr}{cs:List V}{n:Nat}(k:Kn h i (O w cs))(hn:cs.length=n):cO n (X i 0) h=D (.agg (V.ofList cs)) h:=by
 show dR h i _=_;rw[dM (wr:=w) (all:=cs) (by rw[k.1];rfl),jO,l!,<-hn,aen]
def Kn.st{t:TypeId}{f:Bool}{cs:List V}{q:Nat}{y:V}(k:Kn h i (O (N t f) cs))(c:y.cells= [y]/\iq y=true)(a:q<cs.length):
  aV 1 (X i q) y h=D V.undef (h.put i (some (O (N t f) (cs.set q y)))):=TY k.1 c a
def ZX:∀{n:Nat} {x l:List V},x.length=n->l.length=n->jK 0 x l=some x
 |0,[],[],_,_=>rfl
 |n+1,a::x,b::l,c,hl=>by
  show y! (motive:=λ_=>Option (List V)) (jK 0 x l) none (λr=>some (a::r))=_;rw[ZX (n:=n) (by simpa using c) (by simpa using hl)]
 |0,_::_,_,c,_=>by simp at c
 |0,[],_::_,_,hl=>by simp at hl
 |n+1,[],_,c,_=>by simp at c
 |n+1,_::_,[],_,hl=>by simp at hl
def Kn.stN{t:TypeId}{f:Bool}{cs l:List V}{n:Nat}(k:Kn h i (O (N t f) cs))(hl:l.length=n)(c:cs.length=n):
  aV n (X i 0) (.agg (V.ofList l)) h=D V.undef (h.put i (some (O (N t f) l))):=by
 rw[CV k.1 rfl (by show n! (V.ofList l).list.length n=true;rw[V.dB,hl,g!])];show(match jK 0 (V.ofList l).list cs with|some a=>R.ok V.undef (h.put i (some (O (N t f) a)))|none=>.bad)=_;rw[V.dB,ZX hl c]
def T.set_set{α:Type}(x y:Option α)(p:Pos)(t:T α):(t.set x p).set y p=t.set y p:=by
 induction p generalizing t with
 |h=>cases t<;>rfl
 |o p a=>cases t with
  |nil=>exact congrArg (T.node none · .nil) (a .nil)
  |node v l r=>exact congrArg (T.node v · r) (a l)
 |i p a=>cases t with
  |nil=>exact congrArg (T.node none .nil ·) (a .nil)
  |node v l r=>exact congrArg (T.node v l ·) (a r)
def aph(h:Hp)(o o':Ob):(h.new o).put h.next (some o')=h.new o':=by
 show(⟨_,_⟩:Hp)=⟨_,_⟩;rw[show(h.new o).t=h.t.set (some o) h.next from rfl,T.set_set];rfl
def azt(t:TypeId)(z:List V)(h:Hp):eY t z h=D (X h.next 0) (h.new (O (N t true) z)):=(rfl)
def o8(t:TypeId)(l:V)(h:Hp):eU t (.agg l) h=D (X h.next 0) (h.new (O (N t true) l.list)):=(rfl)
def akw(t:TypeId)(k:IntKind)(n:Int)(h:Hp):eU t (Y k n) h=D (X h.next 0) (h.new (O (N t true) [Y k n])):=(rfl)
def auY(t:TypeId)(s:List Nat)(h:Hp):eU t (H s) h=D (X h.next 0) (h.new (O (N t true) [H s])):=(rfl)
def XP{t:TypeId}{f:Bool}{z:List V}{l:V}{n:Nat}(d:l.isRow=true)(hl:l.list.length=n)(c:z.length=n):
  aV n (X h.next 0) (.agg l) (h.new (O (N t f) z))=D V.undef (h.new (O (N t f) l.list)):=by
 rw[CV (dU h _) rfl (by show n! l.list.length n=true;rw[hl,g!])];show(match jK 0 l.list z with|some a=>R.ok V.undef ((h.new (O (N t f) z)).put h.next (some (O (N t f) a)))|none=>.bad)=_;rw[ZX hl c];simp only[];rw[aph]
def aze{t:TypeId}{f:Bool}{z:List V}{q:Nat}{y:V}(c:y.cells= [y]/\iq y=true)(a:q<z.length):
  aV 1 (X h.next q) y (h.new (O (N t f) z))=D V.undef (h.new (O (N t f) (z.set q y))):=by
 rw[TY (dU h _) c a,aph]
abbrev El(α:Type):=(Pos->Prop)->Hp->α->List V->Prop
def El.Stable{α:Type}(E:El α):Prop:=∀{P P' S:Pos->Prop} {h h':Hp} {a:α} {cs:List V},E P h a cs->Ch S h h'->(∀j:Pos,j.nat<h.next.nat->P j->P' j/\¬S j)->E P' h' a cs
def flat{α:Type}(c:α->List V):El α:=λ_ _ a cs=>cs=c a
def aN{α:Type}(c:α->List V):(flat c).Stable:=λe _ _=>e
inductive All2 {α:Type} (R:α->List V->Prop):List α->List (List V)->Prop
 |nil:All2 R [] []
 |cons {a c l cs}:R a c->All2 R l cs->All2 R (a::l) (c::cs)
end
end Go.Vm
namespace Go.Vm.All2
section
variable{h h' g f:Hp}{i j:Pos}{o o':Ob}{S:Pos->Prop}{P:Program}
variable{α:Type}{R Q:α->List V->Prop}{l m:List α}{cs ds:List (List V)}
def len(a:All2 R l cs):cs.length=l.length:=by induction a<;>simp[*]
def mono(a:All2 R l cs)(d:∀a c,R a c->Q a c):All2 Q l cs:=by
 induction a with
 |nil=>exact .nil
 |cons r _ e=>exact .cons (d _ _ r) e
def append(a:All2 R l cs)(b:All2 R m ds):All2 R (l++m) (cs++ds):=by
 induction a with
 |nil=>exact b
 |cons r _ c=>exact .cons r c
def get(a:All2 R l cs):∀{k:Nat} {x:α},l[k]?=some x->∃c,cs[k]?=some c/\R x c:=by
 induction a with
 |nil=>intro k x e;simp at e
 |cons r _ d=>
  intro k x e;cases k with
  |zero=>simp at e;subst e;exact⟨_,rfl,r⟩
  |succ k=>simp at e;exact d e
def take(a:All2 R l cs):∀n,All2 R (l.take n) (cs.take n):=by
 induction a with
 |nil=>intro n;simp;exact .nil
 |cons r _ c=>intro n;cases n with
  |zero=>exact .nil
  |succ n=>exact .cons r (c n)
def drop(a:All2 R l cs):∀n,All2 R (l.drop n) (cs.drop n):=by
 induction a with
 |nil=>intro n;simp;exact .nil
 |cons r b c=>intro n;cases n with
  |zero=>exact .cons r b
  |succ n=>exact c n
def set(a:All2 R l cs):∀{k:Nat} {x:α} {c:List V},R x c->All2 R (l.set k x) (cs.set k c):=by
 induction a with
 |nil=>intro k x c _;simp;exact .nil
 |cons r b d=>intro k x c e;cases k with
  |zero=>exact .cons e b
  |succ k=>exact .cons r (d e)
end
end Go.Vm.All2
namespace Go.Vm
section
variable{h h' g f:Hp}{i j:Pos}{o o':Ob}{S:Pos->Prop}{P:Program}
def oD{w:Nat}:∀{cs:List (List V)},(∀c∈cs,c.length=w)->cs.flatten.length=cs.length*w
 | [],_=>by simp
 |c::cs,a=>by
  rw[b!,a!,a c (by simp),oD λd hd=>a d (by simp[hd]),e!,c!];omega
def ahp{w:Nat}:∀{cs:List (List V)} {k:Nat} {c:List V},(∀c∈cs,c.length=w)->cs[k]?=some c->(cs.flatten.drop (k*w)).take w=c
 | [],k,c,_,e=>by simp at e
 |d::cs,0,c,a,e=>by
  simp at e;subst e;have:=a d (by simp);rw[V!,l!,b!,<-this,T!]
 |d::cs,k+1,c,a,e=>by
  have hd:=a d (by simp);rw[b!,c!,G!,<-B!,<-hd,q!,hd];exact ahp (λc n=>a c (by simp[n])) (by simpa using e)
def arx{w:Nat}:∀{cs:List (List V)} (k:Nat),(∀c∈cs,c.length=w)->cs.flatten.take (k*w)=(cs.take k).flatten
 | [],k,_=>by simp
 |d::cs,0,a=>by simp
 |d::cs,k+1,a=>by
  have hd:=a d (by simp);rw[b!,List.take_succ_cons,b!,c!,G!,<-hd,List.take_length_add_append,hd,arx k λc e=>a c (by simp[e])]
def arz{w:Nat}:∀{cs:List (List V)} (k:Nat),(∀c∈cs,c.length=w)->cs.flatten.drop (k*w)=(cs.drop k).flatten
 | [],k,_=>by simp
 |d::cs,0,a=>by simp
 |d::cs,k+1,a=>by
  have hd:=a d (by simp);rw[b!,List.drop_succ_cons,c!,G!,<-B!,<-hd,q!,hd,arz k λc e=>a c (by simp[e])]
def Rws{α:Type}(P:Pos->Prop)(E:El α)(w:Nat)(h:Hp)(v:V)(l:List α):Prop:=
 ∃a:List (List V),All2 (E P h) l a/\(∀c∈a,c.length=w)/\Sl h.next.nat h w v l.length a.flatten/\zO w v/\∀j,bV v=some j->P j
end
end Go.Vm
namespace Go.Vm.Rws
section
variable{h h' g f:Hp}{i j:Pos}{o o':Ob}{S:Pos->Prop}{P:Program}
variable{α:Type}{P P':Pos->Prop}{E:El α}{w:Nat}{v:V}{l:List α}
def ch(r:Rws P E w h v l)(q:E.Stable)(c:Ch S h h')(n:∀j:Pos,j.nat<h.next.nat->P j->P' j/\¬S j):Rws P' E w h' v l:=by
 obtain⟨d,a,t,s,k,p⟩:=r;exact⟨d,a.mono λ_ _ e=>q e c n,t,(s.ch c (r! _) λj hj=>(n j (s.fF hj) (p j hj)).2).le c.next,k,λj hj=>(n j (s.fF hj) (p j hj)).1⟩
def nw(r:Rws P E w h v l)(a:E.Stable)(c:Nw h h'):Rws P E w h' v l:=r.ch a c λ_ _ q=>⟨q,λq=>q⟩
def mono(r:Rws P E w h v l)(c:E.Stable)(d:∀j:Pos,j.nat<h.next.nat->P j->P' j):Rws P' E w h v l:=r.ch c (Nw.refl h) λj a b=>⟨d j a b,λq=>q⟩
def len(r:Rws P E w h v l)(g:Hp):aZ 2 v g=D (Y U (l.length:Int)) g:=by
 obtain⟨c,a,d,s,k,p⟩:=r;exact s.length
def cell(r:Rws P E w h v l):v.cells= [v]/\iq v=true:=by
 obtain⟨c,a,d,s,k,p⟩:=r;exact s.cell
def elt(r:Rws P E w h v l){k:Nat}{x:α}(e:l[k]?=some x):
  ∃i q cs,(∀g,bD w v (Y U (k:Int)) g=D (X i q) g)/\E P h x cs/\cs.length=w/\i.nat<h.next.nat/\P i/\
   (∀g,g.get i=h.get i->∀f y,cs[f]?=some y->aG (X i (q+f)) g=D y g)/\∀g,g.get i=h.get i->cO w (X i q) g=D (.agg (V.ofList cs)) g:=by
 obtain⟨C,a,u,s,kk,p⟩:=r;obtain⟨c,n,ex⟩:=a.get e;have hk:k<l.length:=(d!.1 e).1;have B:=u c (K! n);obtain⟨i,q,e1,hi,e2,z⟩:=s.atN hk;have t:bV v=some i:=by
  have:=e1 h;rcases s.is with⟨h0,_⟩|⟨i',o,cp,wr,all,rfl,_⟩
  ·omega
  ·rw[zn hk]at this;cases this;rfl
 rw[ahp u n]at z;refine⟨i,q,c,e1,ex,B,hi,p i t,λg G f y d=>e2 g G f y ?_ ?_,z⟩
 ·rw[<-B];exact(d!.1 d).1
 ·have:=ahp u n;rw[<-this,List.getElem?_take,t!]at d;split at d
  ·exact d
  ·cases d
def aQ(P:Pos->Prop)(E:El α)(w:Nat)(h:Hp):Rws P E w h .aQ []:=
 ⟨[],.nil,λ_ q=>(by cases q),⟨by simp,.inl ⟨rfl,.inl rfl⟩⟩,λ_ _ _ _ e=>(by cases e),λ_ e=>(by cases e)⟩
def emp(P:Pos->Prop)(E:El α)(w:Nat)(h:Hp):Rws P E w h .emp []:=
 ⟨[],.nil,λ_ q=>(by cases q),⟨by simp,.inl ⟨rfl,.inr rfl⟩⟩,λ_ _ _ _ e=>(by cases e),λ_ e=>(by cases e)⟩
end
end Go.Vm.Rws
namespace Go.Vm
section
variable{h h' g f:Hp}{i j:Pos}{o o':Ob}{S:Pos->Prop}{P:Program}
def dD{α:Type}(b:Nat)(P:Pos->Prop)(E:El α)(el:TypeId)(w:Nat)(h:Hp)(v:V)(l:List α):Prop:=
 ∃a:List (List V),All2 (E P h) l a/\(∀c∈a,c.length=w)/\Ow b h el w v l.length a.flatten
end
end Go.Vm
namespace Go.Vm.dD
section
variable{h h' g f:Hp}{i j:Pos}{o o':Ob}{S:Pos->Prop}{P:Program}
variable{α:Type}{b:Nat}{P P':Pos->Prop}{E:El α}{el:TypeId}{w:Nat}{v:V}{l:List α}
def nil(b:Nat)(P:Pos->Prop)(E:El α)(el:TypeId)(w:Nat)(h:Hp):dD b P E el w h .aQ []:=⟨[],.nil,λ_ q=>(by cases q),Ow.nil _ _ _ _⟩
def ch(r:dD b P E el w h v l)(k:E.Stable)(c:Ch S h h')(q:∀j:Pos,bV v=some j->¬S j)(n:∀j:Pos,j.nat<h.next.nat->P j->P' j/\¬S j):dD b P' E el w h' v l:=by
 obtain⟨d,a,t,s⟩:=r;exact⟨d,a.mono λ_ _ e=>k e c n,t,s.ch c q⟩
def nw(r:dD b P E el w h v l)(a:E.Stable)(c:Nw h h'):dD b P E el w h' v l:=r.ch a c (λ_ _ q=>q) λ_ _ q=>⟨q,λq=>q⟩
def mono(r:dD b P E el w h v l)(c:E.Stable)(d:∀j:Pos,j.nat<h.next.nat->P j->P' j):dD b P' E el w h v l:=r.ch c (Nw.refl h) (λ_ _ q=>q) λj a b=>⟨d j a b,λq=>q⟩
def rows(r:dD b P E el w h v l)(t:E.Stable)(u:∀j:Pos,j.nat<h.next.nat->P j->P' j)(y:∀j:Pos,b<=j.nat->j.nat<h.next.nat->P' j):Rws P' E w h v l:=by
 obtain⟨d,a,z,s⟩:=r;refine⟨d,a.mono λ_ _ e=>t e (Nw.refl h) λj hj B=>⟨u j hj B,λq=>q⟩,z,s.sl,?_,λj hj=>y j (s.fF hj).1 (s.fF hj).2⟩;intro i q n c e;rcases s.is with⟨_,k⟩|⟨_,k,_⟩
 ·rw[k]at e;cases e
 ·rw[k]at e;cases e;rfl
def len(r:dD b P E el w h v l)(g:Hp):aZ 2 v g=D (Y U (l.length:Int)) g:=by
 obtain⟨c,a,d,s⟩:=r;exact s.sl.length
def cell(r:dD b P E el w h v l):v.cells= [v]/\iq v=true:=by
 obtain⟨c,a,d,s⟩:=r;exact s.cell
end
end Go.Vm.dD
namespace Go.Vm
section
variable{h h' g f:Hp}{i j:Pos}{o o':Ob}{S:Pos->Prop}{P:Program}
def Ow.base{b b':Nat}{el:TypeId}{sz n:Nat}{v:V}{cs:List V}(s:Ow b h el sz v n cs)(hb:∀j,bV v=some j->b'<=j.nat):Ow b' h el sz v n cs:=⟨s.len,by
 rcases s.is with h0|⟨i,rfl,_,hi,f1,a⟩
 ·exact .inl h0
 ·exact .inr ⟨i,rfl,hb i rfl,hi,f1,a⟩⟩
def dD.app1{α:Type}{b bt:Nat}{P P':Pos->Prop}{E:El α}{el:TypeId}{w:Nat}{v:V}{l:List α}{x:α}{cs:List V}(r:dD b P E el w h v l)(u:E.Stable)(hb:b<=h.next.nat)(y:cs.length=w)
  (z:∀j:Pos,j.nat<h.next.nat->P j->P' j) (I:E P' h x cs) (B:∀j:Pos,j.nat<h.next.nat->P' j->bV v≠some j) (C:(l.length+1)*bt<=140737488355328):
  ∃v' h',bZ el w bt v (.slice h.next 0 1 (.kn 1)) (h.new (O (N el true) cs))=D v' h'/\dD b P' E el w h' v' (l++ [x])/\Ch (λj=>bV v=some j) h h'/\h'.next.nat=h.next.nat+2/\v'=.slice h.next.succ 0 (l.length+1) (.un w):=by
 obtain⟨t,a,G,s⟩:=r;obtain⟨v',h',e,e2,o,c,n⟩:=az7 (bt:=bt) (s.base (b':=0) λ_ _=>z! _) y C;refine⟨v',h',e,⟨t++ [cs],?_,?_,?_⟩,c,n,e2⟩
 ·exact(a.mono λ_ _ q=>u q c λj hj k=>⟨z j hj k,λq=>B j hj (z j hj k) q⟩).append (.cons (u I c λj hj k=>⟨k,B j hj k⟩) .nil)
 ·intro d hd;rcases R!.1 hd with q|q
  ·exact G d q
  ·simp at q;subst q;exact y
 ·rw[k!,a!];simp only[b!,List.flatten_nil,A!,e!,List.length_nil,i!];exact o.base λj hj=>by rw[e2]at hj;cases hj;rw[Pos.fA];omega
def dD.fF{α:Type}{b:Nat}{P:Pos->Prop}{E:El α}{el:TypeId}{w:Nat}{v:V}{l:List α}(r:dD b P E el w h v l){j:Pos}(hj:bV v=some j):b<=j.nat/\j.nat<h.next.nat:=by
 obtain⟨c,a,d,s⟩:=r;exact s.fF hj
def Fa(fr:F):List Nat->List V->Prop
 | [],_=>True
 |k::ks,vs=>(match vs with| []=>False|x::vs=>fr.get (h! k)=some x/\Fa fr ks vs)
def Fa.set{fr:F}{p:Nat}{x:Option V}:∀{ks:List Nat} {vs:List V},Fa fr ks vs->ks.contains p=false->Fa (T.set x (h! p) fr) ks vs
 | [],_,_,_=>trivial
 |k::ks,[],a,_=>a.elim
 |k::ks,y::vs,a,n=>by
  simp only[List.contains_cons,L!]at n;refine⟨?_,Fa.set a.2 n.2⟩;rw[tu,if_neg]
  ·exact a.1
  ·intro e;rw[e]at n;simp at n
def Rd{σ:Type}(ks:List Nat)(L:σ->List V)(pi pn k n:Nat)(I:σ->Hp->Prop)(A B:F->Hp->Prop)(id:Nat):Out->Prop
 | .nor fr h=>fr.get (h! pi)=some (Y U (k:Int))/\fr.get (h! pn)=some (Y U (n:Int))/\∃s,Fa fr ks (L s)/\I s h
 | .ret fr h=>B fr h
 | .ex m fr h=>m=id/\A fr h
 | .bad=>False
def dO{σ:Type}{id pi pn pc n:Nat}{t Bd u:F->Hp->Out}(ks:List Nat)(L:σ->List V)(I:Nat->σ->Hp->Prop){A B:F->Hp->Prop}{fr:F}{h:Hp}{s:σ}
  (h5:∀fr h,fr.get (h! pi)=fr.get (h! pi)->∀k:Nat,fr.get (h! pi)=some (Y U (k:Int))->fr.get (h! pn)=some (Y U (n:Int))->t fr h=.nor (T.set (some (K (decide ((k:Int)<(n:Int))))) (h! pc) fr) h)
  (h8:∀fr h,∀k:Nat,k<n->fr.get (h! pi)=some (Y U (k:Int))->u fr h=.nor (T.set (some (Y U ((k:Int)+1))) (h! pi) fr) h)
  (hd:(ks.contains pi||ks.contains pc||n! pi pn||n! pc pi||n! pc pn)=false) (hn:n<lf)
  (i0:fr.get (h! pi)=some (Y U 0)) (n0:fr.get (h! pn)=some (Y U (n:Int))) (a0:Fa fr ks (L s)) (J:I 0 s h)
  (step:∀k s fr h,k<n->fr.get (h! pi)=some (Y U (k:Int))->fr.get (h! pn)=some (Y U (n:Int))->Fa fr ks (L s)->I k s h->Rd ks L pi pn k n (I (k+1)) A B id (Bd fr h))
  (fin:∀s fr h,Fa fr ks (L s)->I n s h->A fr h):
  Oc A B (yc id (dI (aC t (aC (aT (.tmp pc) Out.nor (Out.ex id)) (aC Bd u))) lf fr h)):=by
 simp only[L!]at hd;obtain⟨⟨⟨⟨M,y⟩,W⟩,Z⟩,d5⟩:=hd;have e3:pi≠pn:=p! W;have e4:pc≠pi:=p! Z;have e5:pc≠pn:=p! d5;refine dW (n:=n) (λm fr h=>∃(k:Nat) (s:σ),k+m=n/\fr.get (h! pi)=some (Y U (k:Int))/\fr.get (h! pn)=some (Y U (n:Int))/\Fa fr ks (L s)/\I k s h) hn ⟨0,s,by omega,i0,n0,a0,J⟩ ?_;rintro m fr h ⟨k,s,hk,C,fn,z,G⟩;rw[XT,h5 fr h rfl k C fn,Ox,XT,akS,tu,if_pos rfl,akI];by_cases c:k<n
 ·rw[apr (by omega),Ox,XT];have st:=step k s (T.set (some (K (decide ((k:Int)<(n:Int))))) (h! pc) fr) h c (by rw[tu,if_neg (Ne.symm e4)];exact C) (by rw[tu,if_neg (Ne.symm e5)];exact fn) (z.set y) G;cases hb:Bd (T.set (some (K (decide ((k:Int)<(n:Int))))) (h! pc) fr) h with
  |nor a d=>
   rw[hb]at st;obtain⟨gi,gn,s1,ga,e⟩:=st;rw[Ox,h8 a d k c gi];refine⟨m - 1,by omega,k+1,s1,by omega,?_,?_,ga.set M,e⟩
   ·rw[tu,if_pos rfl];rfl
   ·rw[tu,if_neg (Ne.symm e3)];exact gn
  |ret a d=>rw[hb]at st;exact st
  |ex q a d=>rw[hb]at st;exact st
  |bad=>rw[hb]at st;exact st.elim
 ·rw[aps (by omega)];have r:k=n:=by omega
  subst r;exact⟨rfl,fin s _ h (z.set y) G⟩
end
section
variable{h:Hp}
def yN:aJ .eql .slice .aQ .aQ h=D (K true) h:=(rfl)
def sS(el:TypeId)(h:Hp):apc el h=D (.slice h.next 0 0 (.kn 0)) (h.new (O (N el true) [])):=(rfl)
def UC{el:TypeId}{sz bt b o n:Nat}{i:Pos}{cp:Cap}{x:V}(s:Sl b h sz x 0 []):bZ el sz bt (.slice i o n cp) x h=D (.slice i o n cp) h:=by
 unfold bZ;rw[s.src]
def apn{l:List V}(h:l.length=1):∃y,l= [y]:=by
 match l,h with
 | [y],_=>exact⟨y,rfl⟩
def take_snoc{α:Type}{l:List α}{k:Nat}{a:α}(e:l[k]?=some a):l.take (k+1)=l.take k++ [a]:=by rw[List.take_add_one,e];rfl
def gB:Option Nat->Int
 |some k=>(k:Int)
 |none=> -1
def lK{α:Type}{p:α->Bool}{l:List α}{k:Nat}{x:α}(d:l[k]?=some x)(a:(l.take k).findIdx? p=none)(e:p x=true):l.findIdx? p=some k:=by
 have hk:=(d!.1 d).1;have c:=(d!.1 d).2;rw[u!];refine⟨hk,by rw[c];exact e,λj hj=>?_⟩;have:=D!.1 a (l[j]'(by omega)) (by
  rw[List.mem_take_iff_getElem];exact⟨j,by omega,rfl⟩)
 simpa using this
def vC{α:Type}(p:α->Bool)(l:List α):decide (gB (l.findIdx? p)>=0)=l.any p:=by
 cases a:l.findIdx? p with
 |none=>
  rw[D!]at a;rw[S!];simp[gB,N!];exact a
 |some k=>
  obtain⟨hk,c,_⟩:=u!.1 a;rw[S!];simp only[gB,decide_eq_true_eq,N!];exact⟨λ_=>⟨l[k],M! hk,c⟩,λ_=>decide_eq_true (Int.natCast_nonneg k)⟩
def Rws.zero{α:Type}{b w:Nat}{c:α->List V}{el:TypeId}(hb:b<=h.next.nat):Rws (λj=>b<=j.nat) (flat c) w (h.new (O (N el true) [])) (.slice h.next 0 0 (.kn 0)) ([]:List α):=
 ⟨[],.nil,λ_ q=>(by cases q),⟨by simp,.inr ⟨h.next,0,_,N el true,[],rfl,by rw[bG];omega,by rw[dU];rfl,λk hk=>by simp at hk⟩⟩,λi o n c e=>by cases e;exact r! _,λj hj=>by cases hj;exact hb⟩
end
def azy(n:Nat)(x:V)(h:Hp):dZ (.func n) [] [x] h=D (.func (.func n) .nil (.cons x .nil)) h:=(rfl)
def azx(n:Nat)(x y:V)(h:Hp):dZ (.func n) [] [x,y] h=D (.func (.func n) .nil (.cons x (.cons y .nil))) h:=(rfl)
def azw(n:Nat)(x y z:V)(h:Hp):dZ (.func n) [] [x,y,z] h=D (.func (.func n) .nil (.cons x (.cons y (.cons z .nil)))) h:=(rfl)
def azz(n:Nat)(h:Hp):dZ (.func n) [] [] h=D (.func (.func n) .nil .nil) h:=(rfl)
def vqK:type_of% @azt/\type_of% @o8/\type_of% @akw/\type_of% @auY/\type_of% @azy/\type_of% @azx/\type_of% @azw/\type_of% @azz/\type_of% @sS:=
 ⟨@azt,@o8,@akw,@auY,@azy,@azx,@azw,@azz,@sS⟩
section
variable{h g:Hp}{p:Pos}
def V.noF:V->Bool
 | .func _ _ _=>false
 | .iface _ v=>v.noF
 | .agg v=>v.noF
 | .tuple v=>v.noF
 | .cons a b=>a.noF&&b.noF
 |_=>true
def al0:∀s:List Nat,kF s s=true
 | []=>rfl
 |a::s=>by simp only[kF,g!];exact al0 s
def akO:∀{v:V},v.noF=true->eqV v v=true:=by
 intro v;induction v with
 |bool b=>intro _;cases b<;>rfl
 |int k n=>intro _;exact aJB k n
 |str s=>intro _;exact al0 s
 |ptr i o=>intro _;show(match i.eq i with|true=>n! o o|false=>false)=true;rw[Pos.eq_self,g!]
 |slice i o n c=>intro _;cases c<;>simp only[eqV,Pos.eq_self,g!]
 |map i=>intro _;exact Pos.eq_self i
 |func fn a b=>intro d;cases d
 |iface t v q=>intro d;show(match n! t t with|true=>eqV v v|false=>false)=true;rw[g!];exact q d
 |agg v q=>intro d;exact q d
 |tuple v q=>intro d;exact q d
 |cons a b r u=>
  intro d;have e:(a.noF&&b.noF)=true:=d;rw[Bool.and_eq_true]at e;show(match eqV a a with|true=>eqV b b|false=>false)=true;rw[r e.1];exact u e.2
 |_=>intro _;rfl
def Sl.noF{b sz n:Nat}{v:V}{cs:List V}(s:Sl b h sz v n cs):v.noF=true:=by
 rcases s.is with⟨_,rfl|rfl⟩|⟨i,o,c,wr,all,rfl,_⟩<;>rfl
def Rws.noF{α:Type}{P:Pos->Prop}{E:El α}{w:Nat}{v:V}{l:List α}(r:Rws P E w h v l):v.noF=true:=by
 obtain⟨c,a,d,s,k,p⟩:=r;exact s.noF
def sN{m:Hp->R V}{v:V}{k:Out}{g a:Hp}(c:v.noF=true)(e:m g=D v a):chk m v k 1 [g]=k:=LY e (akO c)
def avR{m:Hp->R V}{v:V}{k:Out}{g a f f':Hp}(c:v.noF=true)(e:m g=D v a)(e2:m f=D v f'):chk m v k 2 [g,f]=k:=az3 e e2 (akO c)
def aN9{m:Hp->R V}{v:V}{k:Out}{g q f f' d c:Hp}(a:v.noF=true)(e:m g=D v q)(e2:m f=D v f')(n:m d=D v c):chk m v k 3 [g,f,d]=k:=by
 show(match m g with|D v' _=>(match eqV v v' with|true=>chk m v k 2 [f,d]|false=>.bad)| .bad=>.bad)=_;rw[e];simp only[akO a];exact avR a e2 n
def ayi{w:Wr}{cs:List V}{q:Nat}{n:Int}(k:Kn h p (O w cs))(a:cs[q]?=some (Y U n)):aaF U [X p q] h=D (Y U n) h:=by
 show dR h p (λ_ cs=>match LK q cs with|some v=>(match v with|Y c n=>(match V9 U c with|true=>R.ok (Y U n) h|false=>.bad)|_=>.bad)|none=>.bad)=_;rw[dM (wr:=w) (all:=cs) (by rw[k.1];rfl),oz,a];rfl
def avY{t:TypeId}{f:Bool}{cs:List V}{q:Nat}{n:Int}(k:Kn h p (O (N t f) cs))(c:q<cs.length):OD [X p q,Y U n] h=D V.undef (h.put p (some (O (N t f) (cs.set q (Y U n))))):=by
 show dR h p (λwr cs=>(match wr with
   |N t f=>(match jK q [Y U n] cs with|some a=>R.ok V.undef (h.put p (some (O (N t f) a)))|none=>.bad)
   | .ro=>.bad))=_
 rw[dM (wr:=N t f) (all:=cs) (by rw[k.1];rfl)];simp only[Ug c]
def aC2{t:TypeId}{f:Bool}{cs:List V}{q:Nat}{n m:Int}(k:Kn h p (O (N t f) cs))(d:cs[q]?=some (Y U n))(r: -9223372036854775808<=n+m)(u:n+m<9223372036854775808):
  Yy U [X p q,Y U m] h=D (Y U (n+m)) (h.put p (some (O (N t f) (cs.set q (Y U (n+m)))))):=by
 have c:q<cs.length:=(d!.1 d).1;have e:iH U (xJ U (n+m)) h=D (Y U (n+m)) h:=by rw[A7,wrap_in r u,gK]
 show dR h p (λwr cs=>(match LK q cs with
   |some v=>(match v with
    |Y y n=>(match V9 U y,V9 U U with
     |true,true=>(match wr with
      |N t f=>(match iH U (xJ U (n+m)) h with
       |D s _=>(match jK q [s] cs with|some a=>R.ok s (h.put p (some (O (N t f) a)))|none=>.bad)
       | .bad=>.bad)
      | .ro=>.bad)
     |_,_=>.bad)
    |_=>.bad)
   |none=>.bad))=_
 rw[dM (wr:=N t f) (all:=cs) (by rw[k.1];rfl),oz,d];show(match iH U (xJ U (n+m)) h with
       |D s _=>(match jK q [s] cs with|some a=>R.ok s (h.put p (some (O (N t f) a)))|none=>.bad)
       | .bad=>.bad)=_
 rw[e];simp only[Ug c]
end
section
variable{h h' g:Hp}{α:Type}{b bt:Nat}{E:El α}{el:TypeId}{w:Nat}{v:V}{l:List α}{x:α}{cs:List V}
abbrev iU(b:Nat)(E:El α)(el:TypeId)(w:Nat)(h:Hp)(v:V)(l:List α):Prop:=dD b (λj=>b<=j.nat/\bV v≠some j) E el w h v l
def iU.app{P0:Pos->Prop}(r:iU b E el w h v l)(d:E.Stable)(hb:b<=h.next.nat)(k:cs.length=w)(u:E P0 h x cs)(s:∀j:Pos,j.nat<h.next.nat->P0 j->b<=j.nat/\bV v≠some j)(t:(l.length+1)*bt<=140737488355328):
  ∃v' h',bZ el w bt v (.slice h.next 0 1 (.kn 1)) (h.new (O (N el true) cs))=D v' h'/\iU b E el w h' v' (l++ [x])/\Ch (λj=>bV v=some j) h h'/\h'.next.nat=h.next.nat+2/\v'=.slice h.next.succ 0 (l.length+1) (.un w):=by
 obtain⟨v',h',e,o,c,n,rfl⟩:=dD.app1 (P':=λj=>(b<=j.nat/\bV v≠some j)/\j.nat<h.next.nat) (bt:=bt) (x:=x) (cs:=cs) r d hb k (λj hj a=>⟨a,hj⟩)
  (d u (Nw.refl h) λj hj a=>⟨⟨s j hj a,hj⟩,λq=>q⟩) (λj _ a=>a.1.2) t
 refine⟨_,h',e,o.mono d λj _ a=>⟨a.1.1,λq=>?_⟩,c,n,rfl⟩;injection q with q;have:=congrArg Pos.nat q
 rw[Pos.fA]at this;have:=a.2;omega
def iU.nil(b:Nat)(E:El α)(el:TypeId)(w:Nat)(h:Hp):iU b E el w h .aQ []:=dD.nil _ _ _ _ _ _
def iU.nw(r:iU b E el w h v l)(a:E.Stable)(c:Nw h h'):iU b E el w h' v l:=dD.nw r a c
def iU.rws(r:iU b E el w h v l)(a:E.Stable):Rws (λj=>b<=j.nat) E w h v l:=dD.rows r a (λ_ _ q=>q.1) λ_ q _=>q
def iU.lower{b':Nat}(r:iU b E el w h v l)(hb:b'<=b)(d:E.Stable:=by exact aN _):iU b' E el w h v l:=by
 obtain⟨c,a,k,s⟩:=r;exact⟨c,a.mono λ_ _ e=>d e (Nw.refl h) λj _ q=>⟨⟨W! hb q.1,q.2⟩,λq=>q⟩,k,s.base λj hj=>W! hb (s.fF hj).1⟩
def Nw.own(c:Nw g h)(d:Ch (λj=>bV v=some j) h h')(a:∀j,bV v=some j->g.next.nat<=j.nat):Nw g h':=c.then d λj hj q=>by have:=a j q;omega
end
section
variable{h h':Hp}{i:Pos}{o:Ob}{α:Type}
def Kn.bump(k:Kn h i o)(n:Nat):Kn (aK n h) i o:=⟨k.1,by rw[Dk];have:=k.2;omega⟩
def Nw.bump(n:Nat)(h:Hp):Nw h (aK n h):=Ch.aK _ n h
def dD.apP{b bt:Nat}{c:α->List V}{el:TypeId}{w:Nat}{v:V}{l:List α}{x:α}(r:dD b (λ_=>False) (flat c) el w h v l)(hb:b<=h.next.nat)(d:(c x).length=w)(k:(l.length+1)*bt<=140737488355328):
  ∃v' h',bZ el w bt v (.slice h.next 0 1 (.kn 1)) (h.new (O (N el true) (c x)))=D v' h'/\dD b (λ_=>False) (flat c) el w h' v' (l++ [x])/\Ch (λj=>bV v=some j) h h'/\h'.next.nat=h.next.nat+2/\(∀j,bV v'=some j->h.next.nat<=j.nat):=by
 obtain⟨v',h',e,o,a,n,rfl⟩:=dD.app1 (P':=λ_=>False) (bt:=bt) (x:=x) r (aN _) hb d (λ_ _ q=>q) rfl (λ_ _ q=>q.elim) k;exact⟨_,h',e,o,a,n,λj q=>by injection q with q;rw[<-q,Pos.fA];omega⟩
def dD.aBZ{b:Nat}{c:α->List V}{el:TypeId}{w:Nat}{v:V}{l:List α}(r:dD b (λ_=>False) (flat c) el w h v l):Rws (λ_=>True) (flat c) w h v l:=r.rows (aN _) (λ_ _ q=>q.elim) λ_ _ _=>trivial
end
section
variable{h:Hp}{i:Pos}{α:Type}
def All2.flat{P:Pos->Prop}{c:α->List V}{l:List α}{d:List (List V)}(a:All2 (Go.Vm.flat c P h) l d):d=l.map c:=by
 induction a with
 |nil=>rfl
 |cons r _ e=>rw[e,List.map_cons];rw[show _=c _ from r]
def dD.open{b:Nat}{P:Pos->Prop}{c:α->List V}{el:TypeId}{w:Nat}{v:V}{l:List α}(r:dD b P (flat c) el w h v l)(hl:l≠ []):
  ∃i f,v=.slice i 0 l.length (.un w)/\b<=i.nat/\Kn h i (O (N el f) (l.map c).flatten):=by
 obtain⟨d,a,n,s⟩:=r;rcases s.is with⟨h0,_⟩|⟨i,e,hb,hi,f,k⟩
 ·exact absurd (F!.1 h0) hl
 ·exact⟨i,f,e,hb,by rw[<-a.flat];exact⟨k,hi⟩⟩
def dD.mk{b:Nat}{P:Pos->Prop}{c:α->List V}{el:TypeId}{w:Nat}{l:List α}{f:Bool}(n:∀x,(c x).length=w)(hb:b<=i.nat)(k:Kn h i (O (N el f) (l.map c).flatten)):dD b P (flat c) el w h (.slice i 0 l.length (.un w)) l:=by
 have e:∀d∈l.map c,d.length=w:=λd hd=>by obtain⟨x,_,rfl⟩:=U!.1 hd;exact n x
 refine⟨l.map c,?_,e,by rw[oD e,List.length_map],.inr ⟨i,rfl,hb,k.2,f,k.1⟩⟩;clear k e;induction l with
 |nil=>exact .nil
 |cons a l q=>exact .cons rfl q
def amy{c:α->V}(l:List α):(l.map λx=> [c x]).flatten=l.map c:=by
 induction l with
 |nil=>rfl
 |cons a l d=>simp[d]
def ltI(a b:Int):Bool:=decide (a<b)
def aaE(lt:α->α->Bool):Nat->List α->List α
 |0,l=>l
 |j+1,l=>(match l[j+1]?,l[j]? with
  |some x,some y=>(match lt x y with|true=>aaE lt j ((l.set (j+1) y).set j x)|false=>l)
  |_,_=>l)
def iJ(lt:α->α->Bool):Nat->List α->List α
 |0,l=>l
 |i+1,l=>aaE lt i (iJ lt i l)
def avU(lt:α->α->Bool):∀(j:Nat) (l:List α),(aaE lt j l).length=l.length
 |0,l=>rfl
 |j+1,l=>by
  unfold aaE;split
  ·split
   ·rw[avU lt j];simp
   ·rfl
  ·rfl
def CZ(lt:α->α->Bool):∀(i:Nat) (l:List α),(iJ lt i l).length=l.length
 |0,l=>rfl
 |i+1,l=>by show(aaE lt i (iJ lt i l)).length=_;rw[avU,CZ lt i]
def SC(lt:α->α->Bool){l:List α}(h:l.length<=1):iJ lt l.length l=l:=by
 match l,h with
 | [],_=>rfl
 | [a],_=>rfl
end
def Oc.out{A B:F->Hp->Prop}{o:Out}{Q:Out->Prop}(a:Oc A B o)(c:∀fr h,A fr h->Q (.nor fr h))(d:∀fr h,B fr h->Q (.ret fr h)):Q o:=by
 cases o with
 |nor fr h=>exact c fr h a
 |ret fr h=>exact d fr h a
 |ex i fr h=>exact a.elim
 |bad=>exact a.elim
def auZ{c:EqC}{h:Hp}(a b:List Nat):aJ .lss c (H a) (H b) h=D (K (kZ a b)) h:=by
 show fH (kZ a b) h=_;rw[fU]
def az2(a b:F->Hp->Out)(fr:F)(h:Hp):aT (.const (.bool false)) a b fr h=b fr h:=(rfl)
def az1(a b:F->Hp->Out)(fr:F)(h:Hp):aT (.const (.bool true)) a b fr h=a fr h:=(rfl)
def aJP{Q:Out->Prop}{s:List Nat}{n:Nat}{k:V->Hp->Out}{h:Hp}{kd:IntKind}(hl:v! n s.length=true)(d:(s.all λa=>w! a 8)=true)(hb:((s.drop 1).all λa=>w! 1 a)=true)(hk:∀a:Nat,a<=8->(0<n->1<=a)->Q (k (Y .u8 (a:Int)) h)):Q (aA (mF (H s) (Y kd (n:Int)) h) k):=by
 have c:n<s.length:=by simpa[C!]using hl
 rw[Z9 (E! c),apL];refine hk _ (H! (O!.1 d _ (M! c))) λh0=>H! (O!.1 hb _ ?_);have e:(s.drop 1)[n - 1]?=some s[n]:=by rw[t!,show 1+(n - 1)=n by omega];exact E! c
 exact K! e
section
variable{h h':Hp}{i:Pos}{α:Type}
def avw{w f:Nat}{y:V}:∀{cs:List (List V)} {k:Nat} {c:List V},(∀c∈cs,c.length=w)->cs[k]?=some c->f<w->cs.flatten.set (k*w+f) y=(cs.set k (c.set f y)).flatten
 | [],k,c,_,e,_=>by simp at e
 |d::cs,0,c,a,e,n=>by
  simp at e;subst e;have hd:=a d (by simp);rw[V!,i!,b!,List.set_append_left _ _ (by omega)];rfl
 |d::cs,k+1,c,a,e,n=>by
  have hd:=a d (by simp);rw[b!,List.set_append_right _ _ (by rw[hd,c!];omega),hd,show(k+1)*w+f - w=k*w+f by rw[c!];omega];rw[avw (λc q=>a c (by simp[q])) (by simpa using e) n];rfl
def ahP(v:V)(n:Nat):Prop:=(v=.aQ/\n=0)\/∃i,v=.slice i 0 n (.kn n)
def apO{P P':Pos->Prop}{c:α->List V}{el:TypeId}{w bt:Nat}{v x:V}{l m:List α}(r:Rws P (flat c) w h v l)(I:ahP v l.length)(t:Rws P' (flat c) w h x m)(L:m≠ [])(z:(l.length+m.length)*bt<=140737488355328):
  ∃v' h',bZ el w bt v x h=D v' h'/\dD h.next.nat (λ_=>False) (flat c) el w h' v' (l++m)/\Nw h h':=by
 obtain⟨k,a,W,s,-,-⟩:=r;obtain⟨u,b,hd,t,-,-⟩:=t;have M:0<m.length:=List.length_pos_iff.2 L;have Z:dD h.next.nat (λ_=>False) (flat c) el w (h.new (O (N el false) (k.flatten++u.flatten))) (.slice h.next 0 (l.length+m.length) (.un w)) (l++m):=by
  refine⟨k++u,a.append b,λd y=>(R!.1 y).elim (W d) (hd d),?_⟩;rw[k!,a!];exact⟨by rw[a!,s.len,t.len,Y!],.inr ⟨h.next,rfl,r! _,by rw[bG];omega,false,dU _ _⟩⟩
 refine⟨.slice h.next 0 (l.length+m.length) (.un w),_,?_,Z,Nw.new _ _⟩;unfold bZ;rw[t.src];rcases I with⟨rfl,h0⟩|⟨i,rfl⟩
 ·have G:k.flatten= []:=F!.1 (by rw[s.len,h0];simp);rw[G,Q!,h0,i!];cases n:m.length with
  |zero=>omega
  |succ q=>simp only[];rw[qC (by rw[h0,i!,n]at z;exact z)]
 ·rcases s.is with⟨h0,e|e⟩|⟨i',o,cp,wr,all,e,hi,J,C⟩
  ·cases e
  ·cases e
  ·cases e;have B:gJ (l.length*w) (fG 0 all)=some k.flatten:=Bc C s.len;cases n:m.length with
   |zero=>omega
   |succ q=>
    simp only[];rw[dM J];simp only[dF];rw[show w! (l.length+(q+1)) l.length=false by rw[<-P!,Z!];omega];simp only[B];rw[qC (by rw[<-n];exact z)]
end
def ao2(h:Hp)(i:Pos)(o o':Option Ob):(h.put i o).put i o'=h.put i o':=by
 show(⟨_,_⟩:Hp)=⟨_,_⟩;rw[show(h.put i o).t=h.t.set o i from rfl,T.set_set];rfl
section
variable{h h':Hp}
def amc:∀{vs l:List V},vs.length<=l.length->Sv vs l=some (vs++l.drop vs.length)
 | [],l,_=>rfl
 |v::vs,[],e=>by simp at e
 |v::vs,a::l,e=>by
  show y! (motive:=λ_=>Option (List V)) (Sv vs l) none (λr=>some (v::r))=_;rw[amc (vs:=vs) (l:=l) (by simpa using e)];rfl
def aeB:∀{n:Nat} {vs l:List V},n+vs.length<=l.length->jK n vs l=some (l.take n++vs++l.drop (n+vs.length))
 |0,vs,l,e=>by
  rw[List.take_zero,Q!,i!];exact amc (by omega)
 |n+1,vs,[],e=>by simp at e
 |n+1,vs,a::l,e=>by
  show y! (motive:=λ_=>Option (List V)) (jK n vs l) none (λr=>some (a::r))=_;rw[aeB (n:=n) (vs:=vs) (l:=l) (by simp at e;omega),show n+1+vs.length=(n+vs.length)+1 by omega];simp
def amC{el:TypeId}{f:Bool}{w bt:Nat}{im:Pos}{d:List (List V)}{rest:List V}{i:Nat}(J:Kn h im (O (N el f) (d.flatten++rest)))(I:∀c∈d,c.length=w)(aa:0<w)(hi:i<d.length):
  ∃x h' mid,eP w (.slice im 0 d.length (.un w)) (some (Y U ((i:Int)+1))) none none h=D x h/\bZ el w bt (.slice im 0 i (.un w)) x h=D (.slice im 0 (d.length - 1) (.un w)) h'/\
   Kn h' im (O (N el f) ((d.eraseIdx i).flatten++mid++rest))/\mid.length=w/\Ch (λj=>j=im) h h':=by
 have hl:=oD I;have u:eP w (.slice im 0 d.length (.un w)) (some (Y U ((i:Int)+1))) none none h=(match v! (i+1) d.length with
   |true=>R.ok (.slice im ((i+1)*w) (d.length - (i+1)) (.un w)) h
   |false=>D .emp h):=by
  show(match w! d.length d.length,w! (i+1) d.length,n! w w with
     |true,true,true=>(match v! (i+1) d.length with
      |true=>eG (0+(i+1)*w) λq=>eG (d.length - (i+1)) λn=>R.ok (V.slice im q n (.un w)) h
      |false=>D .emp h)
     |_,_,_=>R.bad)=_
  rw[I! (r! _),I! (show i+1<=d.length from hi),g!];simp only[dF,i!]
 have ab:∀c∈d.drop (i+1),c.length=w:=λc L=>I c (J! L);have s:=oD ab;rw[o!]at s;by_cases W:i+1<d.length
 ·rw[show v! (i+1) d.length=true by rw[C!];exact W]at u;have ac:(d.length - (i+1))*w+(i+1)*w=d.length*w:=by rw[<-Y!];congr 1;omega
  have B:(i+1)*w=i*w+w:=c! i w;have ad:0<(d.length - (i+1))*w:=Nat.mul_pos (by omega) aa;have G:∀k:Nat->List V->R V,qK w (.slice im ((i+1)*w) (d.length - (i+1)) (.un w)) h k=k (d.length - (i+1)) (d.drop (i+1)).flatten:=λk=>by
   show dR h im _=_;rw[dM (wr:=N el f) (all:=d.flatten++rest) (by rw[J.1];rfl),Bc (cs:=(d.drop (i+1)).flatten) (λq hq=>?_) (by rw[s])];rw[List.getElem?_append_left (by omega),<-arz (i+1) I,t!]
  obtain⟨r,y⟩:∃r,r=(d.flatten++rest).take (i*w)++(d.drop (i+1)).flatten++(d.flatten++rest).drop (i*w+(d.drop (i+1)).flatten.length):=⟨_,rfl⟩
  have C:jK (0+i*w) (d.drop (i+1)).flatten (d.flatten++rest)=some r:=by
   rw[i!,y];exact aeB (by rw[s,a!];omega)
  have Z:gJ (i*w) (fG 0 (d.flatten++rest))=some ((d.flatten++rest).take (i*w)):=by rw[jO,l!,Ie (by rw[a!];omega)]
  have z:∃a t,fG (i*w) (fG 0 (d.flatten++rest))=a::t:=by
   rw[jO,jO,l!];have:((d.flatten++rest).drop (i*w)).length≠0:=by rw[o!,a!];omega
   match hq:(d.flatten++rest).drop (i*w) with
   | []=>rw[hq]at this;simp at this
   |a::t=>exact⟨a,t,rfl⟩
  obtain⟨a,t,z⟩:=z;refine⟨_,h.put im (some (O (N el f) r)),d.flatten.drop (d.length*w - w),u,?_,?_,by rw[o!];omega,Ch.put _ _ rfl⟩
  ·unfold bZ;rw[G];obtain⟨m,hm⟩:∃m,d.length - (i+1)=m+1:=⟨d.length - (i+1) - 1,by omega⟩
   rw[hm];simp only[];rw[dM (wr:=N el f) (all:=d.flatten++rest) (by rw[J.1];rfl)];simp only[dF,g!,Z,z,C];rw[show i+(m+1)=d.length - 1 by omega]
  ·have e:r=(d.eraseIdx i).flatten++d.flatten.drop (d.length*w - w)++rest:=by
    rw[y,List.take_append_of_le_length (by omega),arx i I,x!,k!,s,List.drop_append_of_le_length (by omega)];rw[show i*w+(d.length - (i+1))*w=d.length*w - w by omega];simp[j!]
   rw[<-e];exact J.put _
 ·have M:i+1=d.length:=by omega
  rw[show v! (i+1) d.length=false by cases hb:v! (i+1) d.length;rfl;rw[C!]at hb;omega]at u;have B:(i+1)*w=i*w+w:=c! i w;refine⟨.emp,h,(d.drop i).flatten,u,?_,?_,?_,Ch.refl _ _⟩
  ·show R.ok (V.slice im 0 i (.un w)) h=_;rw[show i=d.length - 1 by omega]
  ·have e:(d.eraseIdx i).flatten++(d.drop i).flatten=d.flatten:=by
    rw[x!,M,List.drop_length,A!,<-k!,List.take_append_drop]
   rw[e];exact J
  ·rw[oD λc L=>I c (J! L),o!,show d.length - i=1 by omega,Nat.one_mul]
def arC{el:TypeId}{f:Bool}{w n:Nat}{im:Pos}{cs mid rest zs:List V}(e:Kn h im (O (N el f) (cs++mid++rest)))(r:cs.length=n*w)(y:mid.length=w)(q:zs.length=w)(s:0<w):
  ∃x h' u,FY w (.slice im 0 n (.un w)) (Y U (n:Int)) (Y U ((n:Int)+1)) h=D x h/\XY zs x h=D u h'/\Kn h' im (O (N el f) (cs++(zs++rest)))/\Ch (λj=>j=im) h h':=by
 have a:n*w+w<=(cs++mid++rest).length:=by rw[a!,a!];omega
 have k:(n+1)*w=n*w+w:=c! n w;have e1:FY w (.slice im 0 n (.un w)) (Y U (n:Int)) (Y U ((n:Int)+1)) h=D (.slice im (n*w) 1 (.un w)) h:=by
  show(match w! (n+1) n with
   |true=>eP w (.slice im 0 n (.un w)) (some (Y U (n:Int))) (some (Y U ((n:Int)+1))) none h
   |false=>ZT w im 0 w n (n+1) h)=_
  rw[show w! (n+1) n=false by rw[<-P!,Z!];omega];show dR h im _=_;rw[dM (wr:=N el f) (all:=cs++mid++rest) (by rw[e.1];rfl),jO,l!,Ie (by omega)];rw[show v! n (n+1)=true by rw[C!];omega,g!,show n! w 0=false by cases hb:n! w 0;rfl;have:=Nat.eq_of_beq_eq_true hb;omega];simp only[dF,i!];rw[show n+1 - n=1 by omega]
 have c:jK (n*w) (times 1 zs) (cs++mid++rest)=some (cs++(zs++rest)):=by
  have ht:times 1 zs=zs:=by show zs++times 0 zs=zs;exact A! _
  rw[ht,aeB (by rw[q];exact a),q];congr 1;rw[j! cs mid rest,<-r,T!,<-j!,j! cs zs];rw[show cs.length+w=cs.length+mid.length by omega,<-B!,j! cs mid rest,q!,q!]
 refine⟨_,h.put im (some (O (N el f) (cs++(zs++rest)))),V.undef,e1,?_,e.put _,Ch.put _ _ rfl⟩;show dR h im (λwr cs=>(match wr with
   |N t f=>(match jK (n*w) (times 1 zs) cs with|some d=>R.ok V.undef (h.put im (some (O (N t f) d)))|none=>.bad)
   | .ro=>.bad))=_
 rw[dM (wr:=N el f) (all:=cs++mid++rest) (by rw[e.1];rfl)];simp only[c]
end
def vvB:type_of% vvA/\type_of% vqK/\type_of% @az2/\type_of% @az1:=⟨vvA,vqK,@az2,@az1⟩
def qK0{p:Prop}(h:p:=by simp only[vvB,seval]):p:=h
def qK1{p:Prop}(h:p:=by simp only[vvB,seval]<;>rfl):p:=h
def qK2{p q:Prop}(f:q)(h:q->p:=by intro f;simp only[vvB,seval,f]):p:=h f
def qK3{p q:Prop}(f:q)(h:q->p:=by intro f;simp only[vvB,seval,f]<;>rfl):p:=h f
def qT0{p:Prop}(h:p:=by simp only[bT,vvB,seval,bW]<;>rfl):p:=h
def qT1{p q:Prop}(f:q)(h:q->p:=by intro f;simp only[bT,vvB,seval,f,bW]<;>rfl):p:=h f
def mkT{t:TypeId}{h g:Hp}{c:List V}(n:Nat)(Z:List V)(e:g=h.new (O (N t true) c))(a:c.length=n:=by rfl)(b:Z.length=n:=by rfl):aV n (X h.next 0) (.agg (V.ofList c)) (h.new (O (N t true) Z))=D V.undef g:=by rw[e];have:=XP (t:=t) (f:=true) (z:=Z) (h:=h) (n:=n) (V.oV c) (by rw[V.dB];exact a) b;rw[V.dB]at this;exact this
def mkW(h:Hp)(o:Ob):∃h',h'=h.new o/\Nw h h'/\Kn h' h.next o:=⟨_,rfl,Nw.new _ _,Kn.new _ _⟩
end Go.Vm
namespace Go.Im
structure Bx where
 id:Int
 name:List Nat
 par:Int
 valid:Int
 next:Int
 mod:Int
structure Ml where
 id:Int
 thread:Int
 text:List Nat
 at_:Int
 keys:List (List Nat)
 mem:List (Int×Int)
 mod:Int
 born:Int
structure En where
 mod:Int
 kind:Int
 id:Int
 how:Int
structure Acc where
 clock:Int
 boxes:List Bx
 mails:List Ml
 ents:List En
 floor:Int
 lastBox:Int
 lastId:Int
 octets:Int
abbrev iV(n:Int):V:=Y U n
def gI(b:Bx):List V:= [iV b.id,H b.name,iV b.par,iV b.valid,iV b.next,iV b.mod]
def ja(e:En):List V:= [iV e.mod,iV e.kind,iV e.id,iV e.how]
def dK(m:Int×Int):List V:= [iV m.1,iV m.2]
def jT(s:List Nat):List V:= [H s]
def eu(n:Int):List V:= [iV n]
def dL(m:Ml)(vk vm:V):List V:= [iV m.id,iV m.thread,H m.text,iV m.at_,vk,vm,iV m.mod,iV m.born]
def jo:El Ml:=λP h m cs=>∃vk vm,cs=dL m vk vm/\Rws P (flat jT) 1 h vk m.keys/\Rws P (flat dK) 2 h vm m.mem
def dG:jo.Stable:=λ⟨vk,vm,e,a,b⟩ c d=>⟨vk,vm,e,a.ch (aN _) c d,b.ch (aN _) c d⟩
def stC(A:Acc)(ib:Pos)(cb:Cap)(vm:V)(pl:Pos):List V:=
 [H [117],H [112],iV 1000,iV 100,iV 1048576,iV 1073741824,iV 1073741824,iV 10000,iV 200,iV A.clock,.slice ib 0 A.boxes.length cb,vm,X pl 0,iV A.lastBox,iV A.lastId,iV A.octets]
def aHF(tM:TypeId)(I:Pos->Prop)(h:Hp)(v:V)(l:List Ml):Prop:=
 ∃a,All2 (jo I h) l a/\(∀c∈a,c.length=8)/\((l= []/\v=.aQ)\/∃i f rest,v=.slice i 0 l.length (.un 8)/\Kn h i (O (N tM f) (a.flatten++rest)))
structure AccR (tS tL tB tM tE:TypeId) (h:Hp) (F:Pos->Prop) (ps:Pos) (A:Acc) (pl ib:Pos) (cb:Cap) (fb:Bool) (vm vl:V) (I:Pos->Prop):Prop where
 st:Kn h ps (O (N tS true) (stC A ib cb vm pl))
 lg:Kn h pl (O (N tL true) [iV 10000,vl,iV A.floor])
 bx:Kn h ib (O (N tB fb) (A.boxes.map gI).flatten)
 cap:zO 6 (.slice ib 0 A.boxes.length cb)
 ml:aHF tM I h vm A.mails
 en:dD 0 (λ_=>False) (flat ja) tE 4 h vl A.ents
 ne:ps≠pl/\ps≠ib/\pl≠ib
 nm:∀j,bV vm=some j->j≠ps/\j≠pl/\j≠ib/\bV vl≠some j
 nl:∀j,bV vl=some j->j≠ps/\j≠pl/\j≠ib
 inn:∀j,I j->F j/\j≠ps/\j≠pl/\j≠ib/\bV vm≠some j/\bV vl≠some j
 foot:F ps/\F pl/\F ib/\(∀j,bV vm=some j->F j)/\∀j,bV vl=some j->F j
 lt:∀j,F j->j.nat<h.next.nat
 enil:A.ents= []->vl=.aQ
structure Acc.Small (A:Acc):Prop where
 clock:0<=A.clock/\A.clock<1000000
 boxes:0<A.boxes.length/\A.boxes.length<=1000
 mails:A.mails.length<=1000
 ents:A.ents.length<=9000
 each:∀m∈A.mails,m.keys.length<=1000/\m.mem.length<=1000
end Go.Im
namespace Go.Proofs.Im
def wds:List (List Nat)->Wds
 | []=>.nil
 |t::l=>.cons 1 t .nil (wds l)
def atM:List Wo->Wds
 | []=>.nil
 | .a t::l=>.cons 1 t .nil (atM l)
 | .l s::l=>.cons 3 [] (wds s) (atM l)
def Uy(l:List (List Wo)):List Ln.Got:=l.map λw=>⟨1,atM w⟩
section
variable{P:Pos->Prop}{h:Hp}{p:Pos}
def aDH:∀l:List (List Nat),WAt P h (wds l) (wC l)
 | []=>rfl
 |t::l=>⟨.aQ,[],wC l,rfl,Ow.nil _ _ _ _,λj e=>(by cases e),rfl,aDH l⟩
def aoQ:∀l:List (List Nat),(wds l).len=l.length
 | []=>rfl
 |_::l=>congrArg (· +1) (aoQ l)
def aDJ:∀l:List (List Nat),(wC l).length=l.length*3
 | []=>rfl
 |_::l=>by rw[e!,c!,<-aDJ l];rfl
def ZJ:∀l:List Wo,(atM l).len=l.length
 | []=>rfl
 | .a _::l=>congrArg (· +1) (ZJ l)
 | .l _::l=>congrArg (· +1) (ZJ l)
def avn:∀(l:List Wo) (p:Pos),(lC p l).length=l.length*3
 | [],_=>rfl
 | .a _::l,p=>by rw[e!,c!,<-avn l p];rfl
 | .l _::l,p=>by rw[e!,c!,<-avn l p.succ];rfl
def aEf:∀(l:List (List Wo)) (p:Pos),(gC p l).length=l.length*2
 | [],_=>rfl
 |x::l,p=>by rw[e!,c!,<-aEf l (adv p x).succ];rfl
def Sat(P:Pos->Prop)(h:Hp):Pos->List Ob->Prop
 |_,[]=>True
 |p,o::l=>(Kn h p o/\P p)/\Sat P h p.succ l
def Sat.mk:∀{l:List Ob} {h:Hp},(∀j:Pos,h.next.nat<=j.nat->j.nat<h.next.nat+l.length->P j)->Sat P (mkF h l) h.next l/\Nw h (mkF h l)
 | [],h,_=>⟨trivial,Nw.refl h⟩
 |o::l,h,d=>by
  have hn:(h.new o).next.nat=h.next.nat+1:=Pos.fA _;obtain⟨s,c⟩:=Sat.mk (l:=l) (h:=h.new o) λj a b=>d j (by omega) (by simp only[e!];omega);exact⟨⟨⟨(Kn.new h o).nw c,d _ (r! _) (by simp)⟩,s⟩,(Nw.new h o).trans c⟩
def aoR:∀{l:List Wo} {p:Pos} {r:List Ob},Sat P h p (lN l++r)->WAt P h (atM l) (lC p l)/\Sat P h (adv p l) r
 | [],_,_,s=>⟨rfl,s⟩
 | .a t::l,p,r,s=>by
  obtain⟨a,b⟩:=aoR (l:=l) s;exact⟨⟨.aQ,[],lC p l,rfl,Ow.nil _ _ _ _,λj e=>(by cases e),rfl,a⟩,b⟩
 | .l w::l,p,r,s=>by
  obtain⟨⟨k,c⟩,s2⟩:=s;obtain⟨a,b⟩:=aoR (l:=l) (p:=p.succ) s2;exact⟨⟨.slice p 0 w.length (.un 3),wC w,lC p.succ l,rfl,⟨by rw[aoQ,aDJ],.inr ⟨p,by rw[aoQ],z! _,k.2,false,k.1⟩⟩,λj e=>(by cases e;exact⟨c,rfl⟩),aDH w,a⟩,b⟩
def azO:∀{l:List (List Wo)} {p:Pos} {r:List Ob},Sat P h p (tO p l++r)->GAt P h (Uy l) (gC p l)/\Sat P h (afc p l) r
 | [],_,_,s=>⟨rfl,s⟩
 |x::l,p,r,s=>by
  rw[show tO p (x::l)++r=lN x++(O (N 149 false) (lC p x)::(tO (adv p x).succ l++r)) by simp[tO]]at s;obtain⟨a,⟨k,d⟩,s2⟩:=aoR s;obtain⟨b,c⟩:=azO (l:=l) s2;exact⟨⟨.slice (adv p x) 0 x.length (.un 3),gC (adv p x).succ l,rfl,⟨lC p x,⟨by rw[ZJ,avn],.inr ⟨adv p x,by rw[ZJ],z! _,k.2,false,k.1⟩⟩,λj e=>(by cases e;exact d),a⟩,b⟩,c⟩
def Fed(s:List Nat)(gs:List Ln.Got):Prop:=s.length<=1000/\gs.length<=1000/\∀h:Hp,Ik.aI<=h.next.nat->
 ∃v a,Ik.ap1 [X h.next 0,.slice h.next.succ 0 s.length (.un 1)] ((h.new Ik.rdO).new (.bytes (bys s)))=D v a/\Nw h a/\Told (λj=>h.next.nat<=j.nat/\j.nat<a.next.nat) a v gs
def Fed.mk{s:List Nat}{l:List (List Wo)}(q:s.length<=1000)(hl:l.length<=1000)(e:aaj aoU s=some l):Fed s (Uy l):=by
 refine⟨q,by simpa[Uy]using hl,λh n=>?_⟩;have f:=(Kn.new h Ik.rdO).add (.bytes (bys s))
 have i:=Kn.new (h.new Ik.rdO) (.bytes (bys s));have n1:h.next.succ.nat=h.next.nat+1:=Pos.fA _;have r:(h.new Ik.rdO).next.nat=h.next.nat+1:=bG _ _;have t:((h.new Ik.rdO).new (.bytes (bys s))).next.nat=h.next.nat+2:=by rw[bG,r]
 have hn:h.next≠h.next.succ:=λe=>by have:=congrArg Pos.nat e;omega
 generalize hh:(h.new Ik.rdO).new (.bytes (bys s))=d at*;obtain⟨st,c⟩:=Sat.mk (l:=aae d.next l) (h:=d) (P:=λj=>h.next.nat<=j.nat/\j.nat<(mkF d (aae d.next l)).next.nat) λj a b=>by rw[Ur];exact⟨by omega,b⟩
 have m:Nw h d:=by rw[<-hh];exact(Nw.new _ _).trans (Nw.new _ _)
 refine⟨_,_,aN1 n f.2 (by omega) i.2 hn f.1 i.1 e,m.trans c,?_⟩;obtain⟨g,⟨k,o⟩,-⟩:=azO (l:=l) st;exact⟨gC d.next l,⟨by rw[aEf];simp[Uy],.inr ⟨afc d.next l,by simp[Uy,rcP],z! _,k.2,false,k.1⟩⟩,λj e=>by cases e;exact o,g⟩
def aPX:Fed Ik.fsA (Uy Ik.flA):=Fed.mk (by decide) (by decide) Ik.lookA
end
end Go.Proofs.Im
