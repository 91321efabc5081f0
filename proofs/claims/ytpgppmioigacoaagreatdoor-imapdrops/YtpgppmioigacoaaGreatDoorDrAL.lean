/- Lemmas that the claim's last text uses. No conditions. -/
import Derived.Test.YtpgppmioigacoaaGreatDoorDrAH
import Derived.Test.YtpgppmioigacoaaGreatDoorDrAI
import Derived.Test.YtpgppmioigacoaaGreatDoorDrAK
set_option linter.all false
set_option maxRecDepth 100000
open List renaming length_append→a!,flatten_cons→b!,getElem?_eq_some_iff→c!,append_assoc→j!,flatten_append→k!,drop_zero→l!,length_drop→o!,drop_left→q!,getElem?_drop→r!,findIdx?_eq_some_iff_getElem→t!,eraseIdx_eq_take_drop_succ→w!,length_cons→x!,append_nil→B!,drop_drop→C!,findIdx?_eq_none_iff→E!,getElem?_eq_getElem→F!,length_eq_zero_iff→G!,mem_of_mem_drop→K!,mem_of_getElem?→L!,getElem_mem→N!,any_eq_true→O!,all_eq_true→P!,nil_append→R!,mem_append→S!,take_left→U!
open Nat renaming succ_mul→d!,beq_refl→e!,zero_add→h!,reduceEqDiff→i!,beq→n!,ne_of_beq_eq_false→p!,blt→u!,ble→v!,zero_le→z!,le_refl→A!,blt_eq→D!,add_comm→H!,le_of_ble_eq_true→I!,ble_eq_true_of_le→J!,zero_mul→V!,le_trans→W!,add_mul→Y!,ble_eq→Z!
open Go.Vm.Pos renaming of→g!
open Option renaming casesOn→y!
open Bool renaming or_eq_false_iff→M!,not_eq_true→Q!,eq_iff_iff→T!
open Go.Vm.V renaming int→Y,ptr→X,bool→K,str→H
open Go.IntKind renaming i64→U
open Go.Vm.Ob renaming cells→O
open Go.Vm.Wr renaming rw→N
open Go.Vm.R renaming ok→D
noncomputable section
open Go Go.Vm Go.Proofs Go.Ln
namespace Go.Vm
section
variable{h h' g f:Hp}{i j:Pos}{o o':Ob}{S:Pos->Prop}{P:Program}
abbrev Nw(h h':Hp):Prop:=Ch (λ_=>False) h h'
theorem Nw.refl(h:Hp):Nw h h:=Ch.refl _ _
theorem Nw.trans(a:Nw h g)(b:Nw g f):Nw h f:=Ch.trans a b λ_ _ q=>q
theorem Nw.new(h:Hp)(o:Ob):Nw h (h.new o):=Ch.new _ _ _
theorem Nw.ch(c:Nw h g):Ch S h g:=c.mono λ_ _ q=>q.elim
theorem Nw.put(c:Nw h g)(hi:h.next.nat<=i.nat)(x:Option Ob):Nw h (g.put i x):=
 Ch.trans c (Ch.put (S:=λj=>j=i) g x rfl) λj a q=>by rw[q]at a;omega
theorem Nw.then(c:Nw h g)(d:Ch S g f)(a:∀j:Pos,j.nat<h.next.nat->S j->False):Nw h f:=Ch.trans c d a
theorem Ch.nw(c:Ch S h g)(d:Nw g f):Ch S h f:=c.trans d λ_ _ q=>q.elim
def Kn(h:Hp)(i:Pos)(o:Ob):Prop:=h.get i=some o/\i.nat<h.next.nat
theorem Kn.new(h:Hp)(o:Ob):Kn (h.new o) h.next o:=⟨dR _ _,by rw[bD];omega⟩
theorem Kn.ch(k:Kn h i o)(c:Ch S h g)(a:¬S i):Kn g i o:=⟨(c.get i k.2 a).trans k.1,Nat.lt_of_lt_of_le k.2 c.next⟩
theorem Kn.nw(k:Kn h i o)(c:Nw h g):Kn g i o:=k.ch c λq=>q
theorem Kn.add(k:Kn h i o)(o':Ob):Kn (h.new o') i o:=k.nw (Nw.new _ _)
theorem Kn.put(k:Kn h i o)(o':Ob):Kn (h.put i (some o')) i o':=⟨jE _ _ _,k.2⟩
theorem Kn.PZ(k:Kn h i o)(a:i≠j)(x:Option Ob):Kn (h.put j x) i o:=⟨(Go.Vm.PZ h (axA a) x).trans k.1,k.2⟩
theorem Kn.ld{w:Wr}{cs:List V}{q:Nat}{x:V}(k:Kn h i (O w cs))(a:cs[q]?=some x):aF (X i q) h=D x h:=by
 rw[CW k.1,a]
theorem Kn.ldN{w:Wr}{cs:List V}{n:Nat}(k:Kn h i (O w cs))(a:cs.length=n):bT n (X i 0) h=D (.agg (V.ofList cs)) h:=by
 show dP h i _=_;rw[dM (wr:=w) (all:=cs) (by rw[k.1];rfl),jH,l!,<-a,ab7]
theorem Kn.st{t:TypeId}{f:Bool}{cs:List V}{q:Nat}{y:V}(k:Kn h i (O (N t f) cs))(c:y.cells= [y]/\ja y=true)(a:q<cs.length):
  aT 1 (X i q) y h=D V.undef (h.put i (some (O (N t f) (cs.set q y)))):=PV k.1 c a
theorem X4:∀{n:Nat} {x l:List V},x.length=n->l.length=n->iZ 0 x l=some x
 |0,[],[],_,_=>rfl
 |n+1,a::x,b::l,c,hl=>by
  show y! (motive:=λ_=>Option (List V)) (iZ 0 x l) none (λr=>some (a::r))=_;rw[X4 (n:=n) (by simpa using c) (by simpa using hl)]
 |0,_::_,_,c,_=>by simp at c
 |0,[],_::_,_,hl=>by simp at hl
 |n+1,[],_,c,_=>by simp at c
 |n+1,_::_,[],_,hl=>by simp at hl
theorem Kn.stN{t:TypeId}{f:Bool}{cs l:List V}{n:Nat}(k:Kn h i (O (N t f) cs))(hl:l.length=n)(c:cs.length=n):
  aT n (X i 0) (.agg (V.ofList l)) h=D V.undef (h.put i (some (O (N t f) l))):=by
 rw[vX k.1 rfl (by show n! (V.ofList l).list.length n=true;rw[V.dD,hl,e!])];show(match iZ 0 (V.ofList l).list cs with|some a=>R.ok V.undef (h.put i (some (O (N t f) a)))|none=>.bad)=_;rw[V.dD,X4 hl c]
theorem T.set_set{α:Type}(x y:Option α)(p:Pos)(t:T α):(t.set x p).set y p=t.set y p:=by
 induction p generalizing t with
 |h=>cases t<;>rfl
 |o p a=>cases t with
  |nil=>exact congrArg (T.node none · .nil) (a .nil)
  |node v l r=>exact congrArg (T.node v · r) (a l)
 |i p a=>cases t with
  |nil=>exact congrArg (T.node none .nil ·) (a .nil)
  |node v l r=>exact congrArg (T.node v l ·) (a r)
theorem al0(h:Hp)(o o':Ob):(h.new o).put h.next (some o')=h.new o':=by
 show(⟨_,_⟩:Hp)=⟨_,_⟩;rw[show(h.new o).t=h.t.set (some o) h.next from rfl,T.set_set];rfl
theorem auV(t:TypeId)(z:List V)(h:Hp):fC t z h=D (X h.next 0) (h.new (O (N t true) z)):=(rfl)
theorem aeF(t:TypeId)(l:V)(h:Hp):fO t (.agg l) h=D (X h.next 0) (h.new (O (N t true) l.list)):=(rfl)
theorem ahw(t:TypeId)(k:IntKind)(n:Int)(h:Hp):fO t (Y k n) h=D (X h.next 0) (h.new (O (N t true) [Y k n])):=(rfl)
theorem aqp(t:TypeId)(s:List Nat)(h:Hp):fO t (H s) h=D (X h.next 0) (h.new (O (N t true) [H s])):=(rfl)
theorem iT{t:TypeId}{f:Bool}{z:List V}{l:V}{n:Nat}(d:l.isRow=true)(hl:l.list.length=n)(c:z.length=n):
  aT n (X h.next 0) (.agg l) (h.new (O (N t f) z))=D V.undef (h.new (O (N t f) l.list)):=by
 rw[vX (dR h _) rfl (by show n! l.list.length n=true;rw[hl,e!])];show(match iZ 0 l.list z with|some a=>R.ok V.undef ((h.new (O (N t f) z)).put h.next (some (O (N t f) a)))|none=>.bad)=_;rw[X4 hl c];simp only[];rw[al0]
theorem alI{t:TypeId}{f:Bool}{z:List V}{q:Nat}{y:V}(c:y.cells= [y]/\ja y=true)(a:q<z.length):
  aT 1 (X h.next q) y (h.new (O (N t f) z))=D V.undef (h.new (O (N t f) (z.set q y))):=by
 rw[PV (dR h _) c a,al0]
abbrev El(α:Type):=(Pos->Prop)->Hp->α->List V->Prop
def El.Stable{α:Type}(E:El α):Prop:=∀{P P' S:Pos->Prop} {h h':Hp} {a:α} {cs:List V},E P h a cs->Ch S h h'->(∀j:Pos,j.nat<h.next.nat->P j->P' j/\¬S j)->E P' h' a cs
def flat{α:Type}(c:α->List V):El α:=λ_ _ a cs=>cs=c a
theorem aK{α:Type}(c:α->List V):(flat c).Stable:=λe _ _=>e
inductive All2 {α:Type} (R:α->List V->Prop):List α->List (List V)->Prop
 |nil:All2 R [] []
 |cons {a c l cs}:R a c->All2 R l cs->All2 R (a::l) (c::cs)
end
end Go.Vm
namespace Go.Vm.All2
section
variable{h h' g f:Hp}{i j:Pos}{o o':Ob}{S:Pos->Prop}{P:Program}
variable{α:Type}{R Q:α->List V->Prop}{l m:List α}{cs ds:List (List V)}
theorem len(a:All2 R l cs):cs.length=l.length:=by induction a<;>simp[*]
theorem mono(a:All2 R l cs)(d:∀a c,R a c->Q a c):All2 Q l cs:=by
 induction a with
 |nil=>exact .nil
 |cons r _ e=>exact .cons (d _ _ r) e
theorem append(a:All2 R l cs)(b:All2 R m ds):All2 R (l++m) (cs++ds):=by
 induction a with
 |nil=>exact b
 |cons r _ c=>exact .cons r c
theorem get(a:All2 R l cs):∀{k:Nat} {x:α},l[k]?=some x->∃c,cs[k]?=some c/\R x c:=by
 induction a with
 |nil=>intro k x e;simp at e
 |cons r _ d=>
  intro k x e;cases k with
  |zero=>simp at e;subst e;exact⟨_,rfl,r⟩
  |succ k=>simp at e;exact d e
theorem take(a:All2 R l cs):∀n,All2 R (l.take n) (cs.take n):=by
 induction a with
 |nil=>intro n;simp;exact .nil
 |cons r _ c=>intro n;cases n with
  |zero=>exact .nil
  |succ n=>exact .cons r (c n)
theorem drop(a:All2 R l cs):∀n,All2 R (l.drop n) (cs.drop n):=by
 induction a with
 |nil=>intro n;simp;exact .nil
 |cons r b c=>intro n;cases n with
  |zero=>exact .cons r b
  |succ n=>exact c n
theorem set(a:All2 R l cs):∀{k:Nat} {x:α} {c:List V},R x c->All2 R (l.set k x) (cs.set k c):=by
 induction a with
 |nil=>intro k x c _;simp;exact .nil
 |cons r b d=>intro k x c e;cases k with
  |zero=>exact .cons e b
  |succ k=>exact .cons r (d e)
end
end Go.Vm.All2
namespace Go.Vm
section
variable{h h' g f:Hp}{i j:Pos}{o o':Ob}{S:Pos->Prop}{P:Program}
theorem gW{w:Nat}:∀{cs:List (List V)},(∀c∈cs,c.length=w)->cs.flatten.length=cs.length*w
 | [],_=>by simp
 |c::cs,a=>by
  rw[b!,a!,a c (by simp),gW λd e=>a d (by simp[e]),x!,d!];omega
theorem Ji{w:Nat}:∀{cs:List (List V)} {k:Nat} {c:List V},(∀c∈cs,c.length=w)->cs[k]?=some c->(cs.flatten.drop (k*w)).take w=c
 | [],k,c,_,e=>by simp at e
 |d::cs,0,c,a,e=>by
  simp at e;subst e;have:=a d (by simp);rw[V!,l!,b!,<-this,U!]
 |d::cs,k+1,c,a,e=>by
  have n:=a d (by simp);rw[b!,d!,H!,<-C!,<-n,q!,n];exact Ji (λc q=>a c (by simp[q])) (by simpa using e)
theorem TA{w:Nat}:∀{cs:List (List V)} (k:Nat),(∀c∈cs,c.length=w)->cs.flatten.take (k*w)=(cs.take k).flatten
 | [],k,_=>by simp
 |d::cs,0,a=>by simp
 |d::cs,k+1,a=>by
  have e:=a d (by simp);rw[b!,List.take_succ_cons,b!,d!,H!,<-e,List.take_length_add_append,e,TA k λc n=>a c (by simp[n])]
theorem acP{w:Nat}:∀{cs:List (List V)} (k:Nat),(∀c∈cs,c.length=w)->cs.flatten.drop (k*w)=(cs.drop k).flatten
 | [],k,_=>by simp
 |d::cs,0,a=>by simp
 |d::cs,k+1,a=>by
  have e:=a d (by simp);rw[b!,List.drop_succ_cons,d!,H!,<-C!,<-e,q!,e,acP k λc n=>a c (by simp[n])]
def Rws{α:Type}(P:Pos->Prop)(E:El α)(w:Nat)(h:Hp)(v:V)(l:List α):Prop:=
 ∃a:List (List V),All2 (E P h) l a/\(∀c∈a,c.length=w)/\Sl h.next.nat h w v l.length a.flatten/\yB w v/\∀j,bH v=some j->P j
end
end Go.Vm
namespace Go.Vm.Rws
section
variable{h h' g f:Hp}{i j:Pos}{o o':Ob}{S:Pos->Prop}{P:Program}
variable{α:Type}{P P':Pos->Prop}{E:El α}{w:Nat}{v:V}{l:List α}
theorem ch(r:Rws P E w h v l)(t:E.Stable)(c:Ch S h h')(q:∀j:Pos,j.nat<h.next.nat->P j->P' j/\¬S j):Rws P' E w h' v l:=by
 obtain⟨n,a,u,s,k,p⟩:=r;exact⟨n,a.mono λ_ _ e=>t e c q,u,(s.ch c (A! _) λj d=>(q j (s.eu d) (p j d)).2).le c.next,k,λj d=>(q j (s.eu d) (p j d)).1⟩
theorem nw(r:Rws P E w h v l)(a:E.Stable)(c:Nw h h'):Rws P E w h' v l:=r.ch a c λ_ _ q=>⟨q,λq=>q⟩
theorem mono(r:Rws P E w h v l)(c:E.Stable)(d:∀j:Pos,j.nat<h.next.nat->P j->P' j):Rws P' E w h v l:=r.ch c (Nw.refl h) λj a b=>⟨d j a b,λq=>q⟩
theorem len(r:Rws P E w h v l)(g:Hp):aZ 2 v g=D (Y U (l.length:Int)) g:=by
 obtain⟨c,a,d,s,k,p⟩:=r;exact s.length
theorem cell(r:Rws P E w h v l):v.cells= [v]/\ja v=true:=by
 obtain⟨c,a,d,s,k,p⟩:=r;exact s.cell
theorem elt(r:Rws P E w h v l){k:Nat}{x:α}(e:l[k]?=some x):
  ∃i q cs,(∀g,bJ w v (Y U (k:Int)) g=D (X i q) g)/\E P h x cs/\cs.length=w/\i.nat<h.next.nat/\P i/\
   (∀g,g.get i=h.get i->∀f y,cs[f]?=some y->aF (X i (q+f)) g=D y g)/\∀g,g.get i=h.get i->bT w (X i q) g=D (.agg (V.ofList cs)) g:=by
 obtain⟨G,a,u,s,kk,p⟩:=r;obtain⟨c,n,ex⟩:=a.get e;have C:k<l.length:=(c!.1 e).1;have B:=u c (L! n);obtain⟨i,q,e1,hi,e2,z⟩:=s.atN C;have t:bH v=some i:=by
  have:=e1 h;rcases s.is with⟨h0,_⟩|⟨i',o,cp,wr,all,rfl,_⟩
  ·omega
  ·rw[xQ C]at this;cases this;rfl
 rw[Ji u n]at z;refine⟨i,q,c,e1,ex,B,hi,p i t,λg I f y d=>e2 g I f y ?_ ?_,z⟩
 ·rw[<-B];exact(c!.1 d).1
 ·have:=Ji u n;rw[<-this,List.getElem?_take,r!]at d;split at d
  ·exact d
  ·cases d
theorem aQ(P:Pos->Prop)(E:El α)(w:Nat)(h:Hp):Rws P E w h .aQ []:=
 ⟨[],.nil,λ_ q=>(by cases q),⟨by simp,.inl ⟨rfl,.inl rfl⟩⟩,λ_ _ _ _ e=>(by cases e),λ_ e=>(by cases e)⟩
theorem emp(P:Pos->Prop)(E:El α)(w:Nat)(h:Hp):Rws P E w h .emp []:=
 ⟨[],.nil,λ_ q=>(by cases q),⟨by simp,.inl ⟨rfl,.inr rfl⟩⟩,λ_ _ _ _ e=>(by cases e),λ_ e=>(by cases e)⟩
end
end Go.Vm.Rws
namespace Go.Vm
section
variable{h h' g f:Hp}{i j:Pos}{o o':Ob}{S:Pos->Prop}{P:Program}
def dH{α:Type}(b:Nat)(P:Pos->Prop)(E:El α)(el:TypeId)(w:Nat)(h:Hp)(v:V)(l:List α):Prop:=
 ∃a:List (List V),All2 (E P h) l a/\(∀c∈a,c.length=w)/\Ow b h el w v l.length a.flatten
end
end Go.Vm
namespace Go.Vm.dH
section
variable{h h' g f:Hp}{i j:Pos}{o o':Ob}{S:Pos->Prop}{P:Program}
variable{α:Type}{b:Nat}{P P':Pos->Prop}{E:El α}{el:TypeId}{w:Nat}{v:V}{l:List α}
theorem nil(b:Nat)(P:Pos->Prop)(E:El α)(el:TypeId)(w:Nat)(h:Hp):dH b P E el w h .aQ []:=⟨[],.nil,λ_ q=>(by cases q),Ow.nil _ _ _ _⟩
theorem ch(r:dH b P E el w h v l)(k:E.Stable)(c:Ch S h h')(q:∀j:Pos,bH v=some j->¬S j)(n:∀j:Pos,j.nat<h.next.nat->P j->P' j/\¬S j):dH b P' E el w h' v l:=by
 obtain⟨d,a,t,s⟩:=r;exact⟨d,a.mono λ_ _ e=>k e c n,t,s.ch c q⟩
theorem nw(r:dH b P E el w h v l)(a:E.Stable)(c:Nw h h'):dH b P E el w h' v l:=r.ch a c (λ_ _ q=>q) λ_ _ q=>⟨q,λq=>q⟩
theorem mono(r:dH b P E el w h v l)(c:E.Stable)(d:∀j:Pos,j.nat<h.next.nat->P j->P' j):dH b P' E el w h v l:=r.ch c (Nw.refl h) (λ_ _ q=>q) λj a b=>⟨d j a b,λq=>q⟩
theorem rows(r:dH b P E el w h v l)(u:E.Stable)(y:∀j:Pos,j.nat<h.next.nat->P j->P' j)(z:∀j:Pos,b<=j.nat->j.nat<h.next.nat->P' j):Rws P' E w h v l:=by
 obtain⟨k,a,B,s⟩:=r;refine⟨k,a.mono λ_ _ e=>u e (Nw.refl h) λj d C=>⟨y j d C,λq=>q⟩,B,s.sl,?_,λj d=>z j (s.eu d).1 (s.eu d).2⟩;intro i q n c e;rcases s.is with⟨_,t⟩|⟨_,t,_⟩
 ·rw[t]at e;cases e
 ·rw[t]at e;cases e;rfl
theorem len(r:dH b P E el w h v l)(g:Hp):aZ 2 v g=D (Y U (l.length:Int)) g:=by
 obtain⟨c,a,d,s⟩:=r;exact s.sl.length
theorem cell(r:dH b P E el w h v l):v.cells= [v]/\ja v=true:=by
 obtain⟨c,a,d,s⟩:=r;exact s.cell
end
end Go.Vm.dH
namespace Go.Vm
section
variable{h h' g f:Hp}{i j:Pos}{o o':Ob}{S:Pos->Prop}{P:Program}
theorem Ow.base{b b':Nat}{el:TypeId}{sz n:Nat}{v:V}{cs:List V}(s:Ow b h el sz v n cs)(hb:∀j,bH v=some j->b'<=j.nat):Ow b' h el sz v n cs:=⟨s.len,by
 rcases s.is with h0|⟨i,rfl,_,hi,f1,a⟩
 ·exact .inl h0
 ·exact .inr ⟨i,rfl,hb i rfl,hi,f1,a⟩⟩
theorem dH.app1{α:Type}{b bt:Nat}{P P':Pos->Prop}{E:El α}{el:TypeId}{w:Nat}{v:V}{l:List α}{x:α}{cs:List V}(r:dH b P E el w h v l)(z:E.Stable)(hb:b<=h.next.nat)(B:cs.length=w)
  (C:∀j:Pos,j.nat<h.next.nat->P j->P' j) (M:E P' h x cs) (G:∀j:Pos,j.nat<h.next.nat->P' j->bH v≠some j) (J:(l.length+1)*bt<=140737488355328):
  ∃u h',cZ el w bt v (.slice h.next 0 1 (.kn 1)) (h.new (O (N el true) cs))=D u h'/\dH b P' E el w h' u (l++ [x])/\Ch (λj=>bH v=some j) h h'/\h'.next.nat=h.next.nat+2/\u=.slice h.next.succ 0 (l.length+1) (.un w):=by
 obtain⟨y,a,L,s⟩:=r;obtain⟨u,h',e,e2,o,c,n⟩:=avz (bt:=bt) (s.base (b':=0) λ_ _=>z! _) B J;refine⟨u,h',e,⟨y++ [cs],?_,?_,?_⟩,c,n,e2⟩
 ·exact(a.mono λ_ _ q=>z q c λj k t=>⟨C j k t,λq=>G j k (C j k t) q⟩).append (.cons (z M c λj k t=>⟨t,G j k t⟩) .nil)
 ·intro d I;rcases S!.1 I with q|q
  ·exact L d q
  ·simp at q;subst q;exact B
 ·rw[k!,a!];simp only[b!,List.flatten_nil,B!,x!,List.length_nil,h!];exact o.base λj k=>by rw[e2]at k;cases k;rw[Pos.fA];omega
theorem dH.eu{α:Type}{b:Nat}{P:Pos->Prop}{E:El α}{el:TypeId}{w:Nat}{v:V}{l:List α}(r:dH b P E el w h v l){j:Pos}(d:bH v=some j):b<=j.nat/\j.nat<h.next.nat:=by
 obtain⟨c,a,e,s⟩:=r;exact s.eu d
def Fa(fr:F):List Nat->List V->Prop
 | [],_=>True
 |k::ks,vs=>(match vs with| []=>False|x::vs=>fr.get (g! k)=some x/\Fa fr ks vs)
theorem Fa.set{fr:F}{p:Nat}{x:Option V}:∀{ks:List Nat} {vs:List V},Fa fr ks vs->ks.contains p=false->Fa (T.set x (g! p) fr) ks vs
 | [],_,_,_=>trivial
 |k::ks,[],a,_=>a.elim
 |k::ks,y::vs,a,n=>by
  simp only[List.contains_cons,M!]at n;refine⟨?_,Fa.set a.2 n.2⟩;rw[rH,if_neg]
  ·exact a.1
  ·intro e;rw[e]at n;simp at n
def Rd{σ:Type}(ks:List Nat)(L:σ->List V)(pi pn k n:Nat)(I:σ->Hp->Prop)(A B:F->Hp->Prop)(id:Nat):Out->Prop
 | .nor fr h=>fr.get (g! pi)=some (Y U (k:Int))/\fr.get (g! pn)=some (Y U (n:Int))/\∃s,Fa fr ks (L s)/\I s h
 | .ret fr h=>B fr h
 | .ex m fr h=>m=id/\A fr h
 | .bad=>False
theorem dS{σ:Type}{id pi pn pc n:Nat}{t Bd u:F->Hp->Out}(ks:List Nat)(L:σ->List V)(I:Nat->σ->Hp->Prop){A B:F->Hp->Prop}{fr:F}{h:Hp}{s:σ}
  (h5:∀fr h,fr.get (g! pi)=fr.get (g! pi)->∀k:Nat,fr.get (g! pi)=some (Y U (k:Int))->fr.get (g! pn)=some (Y U (n:Int))->t fr h=.nor (T.set (some (K (decide ((k:Int)<(n:Int))))) (g! pc) fr) h)
  (h8:∀fr h,∀k:Nat,k<n->fr.get (g! pi)=some (Y U (k:Int))->u fr h=.nor (T.set (some (Y U ((k:Int)+1))) (g! pi) fr) h)
  (J:(ks.contains pi||ks.contains pc||n! pi pn||n! pc pi||n! pc pn)=false) (hn:n<lf)
  (i0:fr.get (g! pi)=some (Y U 0)) (n0:fr.get (g! pn)=some (Y U (n:Int))) (a0:Fa fr ks (L s)) (M:I 0 s h)
  (step:∀k s fr h,k<n->fr.get (g! pi)=some (Y U (k:Int))->fr.get (g! pn)=some (Y U (n:Int))->Fa fr ks (L s)->I k s h->Rd ks L pi pn k n (I (k+1)) A B id (Bd fr h))
  (fin:∀s fr h,Fa fr ks (L s)->I n s h->A fr h):
  Oc A B (BK id (dI (aB t (aB (aV (.tmp pc) Out.nor (Out.ex id)) (aB Bd u))) lf fr h)):=by
 simp only[M!]at J;obtain⟨⟨⟨⟨W,y⟩,Z⟩,d4⟩,d5⟩:=J;have e3:pi≠pn:=p! Z;have e4:pc≠pi:=p! d4;have e5:pc≠pn:=p! d5;refine dZ (n:=n) (λm fr h=>∃(k:Nat) (s:σ),k+m=n/\fr.get (g! pi)=some (Y U (k:Int))/\fr.get (g! pn)=some (Y U (n:Int))/\Fa fr ks (L s)/\I k s h) hn ⟨0,s,by omega,i0,n0,a0,M⟩ ?_;rintro m fr h ⟨k,s,hk,C,fn,z,G⟩;rw[VO,h5 fr h rfl k C fn,KJ,VO,ahN,rH,if_pos rfl,ahF];by_cases c:k<n
 ·rw[al7 (by omega),KJ,VO];have st:=step k s (T.set (some (K (decide ((k:Int)<(n:Int))))) (g! pc) fr) h c (by rw[rH,if_neg (Ne.symm e4)];exact C) (by rw[rH,if_neg (Ne.symm e5)];exact fn) (z.set y) G;cases hb:Bd (T.set (some (K (decide ((k:Int)<(n:Int))))) (g! pc) fr) h with
  |nor a d=>
   rw[hb]at st;obtain⟨gi,gn,s1,ga,e⟩:=st;rw[KJ,h8 a d k c gi];refine⟨m - 1,by omega,k+1,s1,by omega,?_,?_,ga.set W,e⟩
   ·rw[rH,if_pos rfl];rfl
   ·rw[rH,if_neg (Ne.symm e3)];exact gn
  |ret a d=>rw[hb]at st;exact st
  |ex q a d=>rw[hb]at st;exact st
  |bad=>rw[hb]at st;exact st.elim
 ·rw[al8 (by omega)];have r:k=n:=by omega
  subst r;exact⟨rfl,fin s _ h (z.set y) G⟩
end
section
variable{h:Hp}
theorem qZ:aJ .eql .slice .aQ .aQ h=D (K true) h:=(rfl)
theorem qW(el:TypeId)(h:Hp):alV el h=D (.slice h.next 0 0 (.kn 0)) (h.new (O (N el true) [])):=(rfl)
theorem QO{el:TypeId}{sz bt b o n:Nat}{i:Pos}{cp:Cap}{x:V}(s:Sl b h sz x 0 []):cZ el sz bt (.slice i o n cp) x h=D (.slice i o n cp) h:=by
 unfold cZ;rw[s.src]
theorem au9{l:List V}(h:l.length=1):∃y,l= [y]:=by
 match l,h with
 | [y],_=>exact⟨y,rfl⟩
theorem take_snoc{α:Type}{l:List α}{k:Nat}{a:α}(e:l[k]?=some a):l.take (k+1)=l.take k++ [a]:=by rw[List.take_add_one,e];rfl
def gK:Option Nat->Int
 |some k=>(k:Int)
 |none=> -1
theorem o8{α:Type}{p:α->Bool}{l:List α}{k:Nat}{x:α}(d:l[k]?=some x)(a:(l.take k).findIdx? p=none)(n:p x=true):l.findIdx? p=some k:=by
 have e:=(c!.1 d).1;have c:=(c!.1 d).2;rw[t!];refine⟨e,by rw[c];exact n,λj q=>?_⟩;have:=E!.1 a (l[j]'(by omega)) (by
  rw[List.mem_take_iff_getElem];exact⟨j,by omega,rfl⟩)
 simpa using this
theorem DU{α:Type}(p:α->Bool)(l:List α):decide (gK (l.findIdx? p)>=0)=l.any p:=by
 cases a:l.findIdx? p with
 |none=>
  rw[E!]at a;rw[T!];simp[gK,O!];exact a
 |some k=>
  obtain⟨c,d,_⟩:=t!.1 a;rw[T!];simp only[gK,decide_eq_true_eq,O!];exact⟨λ_=>⟨l[k],N! c,d⟩,λ_=>decide_eq_true (Int.natCast_nonneg k)⟩
theorem Rws.zero{α:Type}{b w:Nat}{c:α->List V}{el:TypeId}(hb:b<=h.next.nat):Rws (λj=>b<=j.nat) (flat c) w (h.new (O (N el true) [])) (.slice h.next 0 0 (.kn 0)) ([]:List α):=
 ⟨[],.nil,λ_ q=>(by cases q),⟨by simp,.inr ⟨h.next,0,_,N el true,[],rfl,by rw[bD];omega,by rw[dR];rfl,λk d=>by simp at d⟩⟩,λi o n c e=>by cases e;exact A! _,λj a=>by cases a;exact hb⟩
end
theorem au1(n:Nat)(x:V)(h:Hp):eP (.func n) [] [x] h=D (.func (.func n) .nil (.cons x .nil)) h:=(rfl)
theorem au0(n:Nat)(x y:V)(h:Hp):eP (.func n) [] [x,y] h=D (.func (.func n) .nil (.cons x (.cons y .nil))) h:=(rfl)
theorem auZ(n:Nat)(x y z:V)(h:Hp):eP (.func n) [] [x,y,z] h=D (.func (.func n) .nil (.cons x (.cons y (.cons z .nil)))) h:=(rfl)
theorem au2(n:Nat)(h:Hp):eP (.func n) [] [] h=D (.func (.func n) .nil .nil) h:=(rfl)
theorem vqK:type_of% @auV/\type_of% @aeF/\type_of% @ahw/\type_of% @aqp/\type_of% @au1/\type_of% @au0/\type_of% @auZ/\type_of% @au2/\type_of% @qW:=
 ⟨@auV,@aeF,@ahw,@aqp,@au1,@au0,@auZ,@au2,@qW⟩
section
variable{h g:Hp}{p:Pos}
def V.noF:V->Bool
 | .func _ _ _=>false
 | .iface _ v=>v.noF
 | .agg v=>v.noF
 | .tuple v=>v.noF
 | .cons a b=>a.noF&&b.noF
 |_=>true
theorem aiV:∀s:List Nat,jW s s=true
 | []=>rfl
 |a::s=>by simp only[jW,e!];exact aiV s
theorem ahL:∀{v:V},v.noF=true->eqV v v=true:=by
 intro v;induction v with
 |bool b=>intro _;cases b<;>rfl
 |int k n=>intro _;exact aEB k n
 |str s=>intro _;exact aiV s
 |ptr i o=>intro _;show(match i.eq i with|true=>n! o o|false=>false)=true;rw[Pos.eq_self,e!]
 |slice i o n c=>intro _;cases c<;>simp only[eqV,Pos.eq_self,e!]
 |map i=>intro _;exact Pos.eq_self i
 |func fn a b=>intro d;cases d
 |iface t v q=>intro d;show(match n! t t with|true=>eqV v v|false=>false)=true;rw[e!];exact q d
 |agg v q=>intro d;exact q d
 |tuple v q=>intro d;exact q d
 |cons a b r u=>
  intro d;have e:(a.noF&&b.noF)=true:=d;rw[Bool.and_eq_true]at e;show(match eqV a a with|true=>eqV b b|false=>false)=true;rw[r e.1];exact u e.2
 |_=>intro _;rfl
theorem aji:∀{l:List V},(∀v∈l,v.noF=true)->(V.ofList l).noF=true
 | [],_=>rfl
 |a::l,hl=>by
  show(a.noF&&(V.ofList l).noF)=true;rw[hl a (by simp),aji λv c=>hl v (by simp[c])];rfl
theorem Sl.noF{b sz n:Nat}{v:V}{cs:List V}(s:Sl b h sz v n cs):v.noF=true:=by
 rcases s.is with⟨_,rfl|rfl⟩|⟨i,o,c,wr,all,rfl,_⟩<;>rfl
theorem Rws.noF{α:Type}{P:Pos->Prop}{E:El α}{w:Nat}{v:V}{l:List α}(r:Rws P E w h v l):v.noF=true:=by
 obtain⟨c,a,d,s,k,p⟩:=r;exact s.noF
theorem wG{m:Hp->R V}{v:V}{k:Out}{g a:Hp}(c:v.noF=true)(e:m g=D v a):chk m v k 1 [g]=k:=Jo e (ahL c)
theorem ahP{m:Hp->R V}{v:V}{k:Out}{g a f f':Hp}(c:v.noF=true)(e:m g=D v a)(e2:m f=D v f'):chk m v k 2 [g,f]=k:=avu e e2 (ahL c)
theorem aml{m:Hp->R V}{v:V}{k:Out}{g q f f' d c:Hp}(a:v.noF=true)(e:m g=D v q)(e2:m f=D v f')(n:m d=D v c):chk m v k 3 [g,f,d]=k:=by
 show(match m g with|D r _=>(match eqV v r with|true=>chk m v k 2 [f,d]|false=>.bad)| .bad=>.bad)=_;rw[e];simp only[ahL a];exact ahP a e2 n
theorem atT{w:Wr}{cs:List V}{q:Nat}{n:Int}(k:Kn h p (O w cs))(a:cs[q]?=some (Y U n)):YT U [X p q] h=D (Y U n) h:=by
 show dP h p (λ_ cs=>match I9 q cs with|some v=>(match v with|Y c n=>(match Tn U c with|true=>R.ok (Y U n) h|false=>.bad)|_=>.bad)|none=>.bad)=_;rw[dM (wr:=w) (all:=cs) (by rw[k.1];rfl),mY,a];rfl
theorem arx{t:TypeId}{f:Bool}{cs:List V}{q:Nat}{n:Int}(k:Kn h p (O (N t f) cs))(c:q<cs.length):KX [X p q,Y U n] h=D V.undef (h.put p (some (O (N t f) (cs.set q (Y U n))))):=by
 show dP h p (λwr cs=>(match wr with
   |N t f=>(match iZ q [Y U n] cs with|some a=>R.ok V.undef (h.put p (some (O (N t f) a)))|none=>.bad)
   | .ro=>.bad))=_
 rw[dM (wr:=N t f) (all:=cs) (by rw[k.1];rfl)];simp only[P6 c]
theorem ayn{t:TypeId}{f:Bool}{cs:List V}{q:Nat}{n m:Int}(k:Kn h p (O (N t f) cs))(d:cs[q]?=some (Y U n))(r: -9223372036854775808<=n+m)(u:n+m<9223372036854775808):
  Wi U [X p q,Y U m] h=D (Y U (n+m)) (h.put p (some (O (N t f) (cs.set q (Y U (n+m)))))):=by
 have c:q<cs.length:=(c!.1 d).1;have e:iy U (vO U (n+m)) h=D (Y U (n+m)) h:=by rw[zl,wrap_in r u,fU]
 show dP h p (λwr cs=>(match I9 q cs with
   |some v=>(match v with
    |Y y n=>(match Tn U y,Tn U U with
     |true,true=>(match wr with
      |N t f=>(match iy U (vO U (n+m)) h with
       |D s _=>(match iZ q [s] cs with|some a=>R.ok s (h.put p (some (O (N t f) a)))|none=>.bad)
       | .bad=>.bad)
      | .ro=>.bad)
     |_,_=>.bad)
    |_=>.bad)
   |none=>.bad))=_
 rw[dM (wr:=N t f) (all:=cs) (by rw[k.1];rfl),mY,d];show(match iy U (vO U (n+m)) h with
       |D s _=>(match iZ q [s] cs with|some a=>R.ok s (h.put p (some (O (N t f) a)))|none=>.bad)
       | .bad=>.bad)=_
 rw[e];simp only[P6 c]
end
section
variable{h h' g:Hp}{α:Type}{b bt:Nat}{E:El α}{el:TypeId}{w:Nat}{v:V}{l:List α}{x:α}{cs:List V}
abbrev gY(b:Nat)(E:El α)(el:TypeId)(w:Nat)(h:Hp)(v:V)(l:List α):Prop:=dH b (λj=>b<=j.nat/\bH v≠some j) E el w h v l
theorem gY.app{P0:Pos->Prop}(r:gY b E el w h v l)(s:E.Stable)(hb:b<=h.next.nat)(t:cs.length=w)(z:E P0 h x cs)(u:∀j:Pos,j.nat<h.next.nat->P0 j->b<=j.nat/\bH v≠some j)(y:(l.length+1)*bt<=140737488355328):
  ∃k h',cZ el w bt v (.slice h.next 0 1 (.kn 1)) (h.new (O (N el true) cs))=D k h'/\gY b E el w h' k (l++ [x])/\Ch (λj=>bH v=some j) h h'/\h'.next.nat=h.next.nat+2/\k=.slice h.next.succ 0 (l.length+1) (.un w):=by
 obtain⟨k,h',e,o,c,n,rfl⟩:=dH.app1 (P':=λj=>(b<=j.nat/\bH v≠some j)/\j.nat<h.next.nat) (bt:=bt) (x:=x) (cs:=cs) r s hb t (λj d a=>⟨a,d⟩)
  (s z (Nw.refl h) λj d a=>⟨⟨u j d a,d⟩,λq=>q⟩) (λj _ a=>a.1.2) y
 refine⟨_,h',e,o.mono s λj _ a=>⟨a.1.1,λq=>?_⟩,c,n,rfl⟩;injection q with q;have:=congrArg Pos.nat q
 rw[Pos.fA]at this;have:=a.2;omega
theorem gY.nil(b:Nat)(E:El α)(el:TypeId)(w:Nat)(h:Hp):gY b E el w h .aQ []:=dH.nil _ _ _ _ _ _
theorem gY.nw(r:gY b E el w h v l)(a:E.Stable)(c:Nw h h'):gY b E el w h' v l:=dH.nw r a c
theorem gY.rws(r:gY b E el w h v l)(a:E.Stable):Rws (λj=>b<=j.nat) E w h v l:=dH.rows r a (λ_ _ q=>q.1) λ_ q _=>q
theorem gY.lower{b':Nat}(r:gY b E el w h v l)(hb:b'<=b)(d:E.Stable:=by exact aK _):gY b' E el w h v l:=by
 obtain⟨c,a,n,s⟩:=r;exact⟨c,a.mono λ_ _ e=>d e (Nw.refl h) λj _ q=>⟨⟨W! hb q.1,q.2⟩,λq=>q⟩,n,s.base λj k=>W! hb (s.eu k).1⟩
theorem Nw.own(c:Nw g h)(d:Ch (λj=>bH v=some j) h h')(a:∀j,bH v=some j->g.next.nat<=j.nat):Nw g h':=c.then d λj e q=>by have:=a j q;omega
end
section
variable{h h':Hp}{i:Pos}{o:Ob}{α:Type}
theorem Kn.bump(k:Kn h i o)(n:Nat):Kn (aI n h) i o:=⟨k.1,by rw[wH];have:=k.2;omega⟩
theorem Nw.bump(n:Nat)(h:Hp):Nw h (aI n h):=Ch.aI _ n h
theorem dH.aCu{b bt:Nat}{c:α->List V}{el:TypeId}{w:Nat}{v:V}{l:List α}{x:α}(r:dH b (λ_=>False) (flat c) el w h v l)(hb:b<=h.next.nat)(k:(c x).length=w)(s:(l.length+1)*bt<=140737488355328):
  ∃a h',cZ el w bt v (.slice h.next 0 1 (.kn 1)) (h.new (O (N el true) (c x)))=D a h'/\dH b (λ_=>False) (flat c) el w h' a (l++ [x])/\Ch (λj=>bH v=some j) h h'/\h'.next.nat=h.next.nat+2/\(∀j,bH a=some j->h.next.nat<=j.nat):=by
 obtain⟨a,h',e,o,d,n,rfl⟩:=dH.app1 (P':=λ_=>False) (bt:=bt) (x:=x) r (aK _) hb k (λ_ _ q=>q) rfl (λ_ _ q=>q.elim) s;exact⟨_,h',e,o,d,n,λj q=>by injection q with q;rw[<-q,Pos.fA];omega⟩
theorem dH.aHZ{b:Nat}{c:α->List V}{el:TypeId}{w:Nat}{v:V}{l:List α}(r:dH b (λ_=>False) (flat c) el w h v l):Rws (λ_=>True) (flat c) w h v l:=r.rows (aK _) (λ_ _ q=>q.elim) λ_ _ _=>trivial
end
section
variable{h:Hp}{i:Pos}{α:Type}
theorem All2.flat{P:Pos->Prop}{c:α->List V}{l:List α}{d:List (List V)}(a:All2 (Go.Vm.flat c P h) l d):d=l.map c:=by
 induction a with
 |nil=>rfl
 |cons r _ e=>rw[e,List.map_cons];rw[show _=c _ from r]
theorem dH.open{b:Nat}{P:Pos->Prop}{c:α->List V}{el:TypeId}{w:Nat}{v:V}{l:List α}(r:dH b P (flat c) el w h v l)(hl:l≠ []):
  ∃i f,v=.slice i 0 l.length (.un w)/\b<=i.nat/\Kn h i (O (N el f) (l.map c).flatten):=by
 obtain⟨d,a,n,s⟩:=r;rcases s.is with⟨h0,_⟩|⟨i,e,hb,hi,f,k⟩
 ·exact absurd (G!.1 h0) hl
 ·exact⟨i,f,e,hb,by rw[<-a.flat];exact⟨k,hi⟩⟩
theorem dH.mk{b:Nat}{P:Pos->Prop}{c:α->List V}{el:TypeId}{w:Nat}{l:List α}{f:Bool}(q:∀x,(c x).length=w)(hb:b<=i.nat)(k:Kn h i (O (N el f) (l.map c).flatten)):dH b P (flat c) el w h (.slice i 0 l.length (.un w)) l:=by
 have e:∀d∈l.map c,d.length=w:=λd n=>by obtain⟨x,_,rfl⟩:=List.mem_map.1 n;exact q x
 refine⟨l.map c,?_,e,by rw[gW e,List.length_map],.inr ⟨i,rfl,hb,k.2,f,k.1⟩⟩;clear k e;induction l with
 |nil=>exact .nil
 |cons a l r=>exact .cons rfl r
theorem ajy{c:α->V}(l:List α):(l.map λx=> [c x]).flatten=l.map c:=by
 induction l with
 |nil=>rfl
 |cons a l d=>simp[d]
def ltI(a b:Int):Bool:=decide (a<b)
def YS(lt:α->α->Bool):Nat->List α->List α
 |0,l=>l
 |j+1,l=>(match l[j+1]?,l[j]? with
  |some x,some y=>(match lt x y with|true=>YS lt j ((l.set (j+1) y).set j x)|false=>l)
  |_,_=>l)
def iC(lt:α->α->Bool):Nat->List α->List α
 |0,l=>l
 |i+1,l=>YS lt i (iC lt i l)
theorem aru(lt:α->α->Bool):∀(j:Nat) (l:List α),(YS lt j l).length=l.length
 |0,l=>rfl
 |j+1,l=>by
  unfold YS;split
  ·split
   ·rw[aru lt j];simp
   ·rfl
  ·rfl
theorem AB(lt:α->α->Bool):∀(i:Nat) (l:List α),(iC lt i l).length=l.length
 |0,l=>rfl
 |i+1,l=>by show(YS lt i (iC lt i l)).length=_;rw[aru,AB lt i]
theorem OL(lt:α->α->Bool){l:List α}(h:l.length<=1):iC lt l.length l=l:=by
 match l,h with
 | [],_=>rfl
 | [a],_=>rfl
end
theorem Oc.out{A B:F->Hp->Prop}{o:Out}{Q:Out->Prop}(a:Oc A B o)(c:∀fr h,A fr h->Q (.nor fr h))(d:∀fr h,B fr h->Q (.ret fr h)):Q o:=by
 cases o with
 |nor fr h=>exact c fr h a
 |ret fr h=>exact d fr h a
 |ex i fr h=>exact a.elim
 |bad=>exact a.elim
theorem aqr{c:EqC}{h:Hp}(a b:List Nat):aJ .lss c (H a) (H b) h=D (K (kP a b)) h:=by
 show fE (kP a b) h=_;rw[fK]
theorem avt(a b:F->Hp->Out)(fr:F)(h:Hp):aV (.const (.bool false)) a b fr h=b fr h:=(rfl)
theorem avr(a b:F->Hp->Out)(fr:F)(h:Hp):aV (.const (.bool true)) a b fr h=a fr h:=(rfl)
theorem aEN{Q:Out->Prop}{s:List Nat}{n:Nat}{k:V->Hp->Out}{h:Hp}{r:IntKind}(hl:u! n s.length=true)(d:(s.all λa=>v! a 8)=true)(hb:((s.drop 1).all λa=>v! 1 a)=true)(q:∀a:Nat,a<=8->(0<n->1<=a)->Q (k (Y .u8 (a:Int)) h)):Q (aA (mX (H s) (Y r (n:Int)) h) k):=by
 have c:n<s.length:=by simpa[D!]using hl
 rw[Yt (F! c),amq];refine q _ (I! (P!.1 d _ (N! c))) λh0=>I! (P!.1 hb _ ?_);have e:(s.drop 1)[n - 1]?=some s[n]:=by rw[r!,show 1+(n - 1)=n by omega];exact F! c
 exact L! e
section
variable{h h':Hp}{i:Pos}{α:Type}
theorem ahK{w f:Nat}{y:V}:∀{cs:List (List V)} {k:Nat} {c:List V},(∀c∈cs,c.length=w)->cs[k]?=some c->f<w->cs.flatten.set (k*w+f) y=(cs.set k (c.set f y)).flatten
 | [],k,c,_,e,_=>by simp at e
 |d::cs,0,c,a,e,q=>by
  simp at e;subst e;have n:=a d (by simp);rw[V!,h!,b!,List.set_append_left _ _ (by omega)];rfl
 |d::cs,k+1,c,a,e,q=>by
  have n:=a d (by simp);rw[b!,List.set_append_right _ _ (by rw[n,d!];omega),n,show(k+1)*w+f - w=k*w+f by rw[d!];omega];rw[ahK (λc r=>a c (by simp[r])) (by simpa using e) q];rfl
def aaf(v:V)(n:Nat):Prop:=(v=.aQ/\n=0)\/∃i,v=.slice i 0 n (.kn n)
theorem aeU{P P':Pos->Prop}{c:α->List V}{el:TypeId}{w bt:Nat}{v x:V}{l m:List α}(r:Rws P (flat c) w h v l)(L:aaf v l.length)(t:Rws P' (flat c) w h x m)(W:m≠ [])(z:(l.length+m.length)*bt<=140737488355328):
  ∃C h',cZ el w bt v x h=D C h'/\dH h.next.nat (λ_=>False) (flat c) el w h' C (l++m)/\Nw h h':=by
 obtain⟨k,a,hw,s,-,-⟩:=r;obtain⟨u,b,J,t,-,-⟩:=t;have Z:0<m.length:=List.length_pos_iff.2 W;have ow:dH h.next.nat (λ_=>False) (flat c) el w (h.new (O (N el false) (k.flatten++u.flatten))) (.slice h.next 0 (l.length+m.length) (.un w)) (l++m):=by
  refine⟨k++u,a.append b,λd y=>(S!.1 y).elim (hw d) (J d),?_⟩;rw[k!,a!];exact⟨by rw[a!,s.len,t.len,Y!],.inr ⟨h.next,rfl,A! _,by rw[bD];omega,false,dR _ _⟩⟩
 refine⟨.slice h.next 0 (l.length+m.length) (.un w),_,?_,ow,Nw.new _ _⟩;unfold cZ;rw[t.src];rcases L with⟨rfl,h0⟩|⟨i,rfl⟩
 ·have I:k.flatten= []:=G!.1 (by rw[s.len,h0];simp);rw[I,R!,h0,h!];cases n:m.length with
  |zero=>omega
  |succ q=>simp only[];rw[tH (by rw[h0,h!,n]at z;exact z)]
 ·rcases s.is with⟨h0,e|e⟩|⟨i',o,cp,wr,all,e,hi,M,G⟩
  ·cases e
  ·cases e
  ·cases e;have B:gm (l.length*w) (fB 0 all)=some k.flatten:=vP G s.len;cases n:m.length with
   |zero=>omega
   |succ q=>
    simp only[];rw[dM M];simp only[dF];rw[show v! (l.length+(q+1)) l.length=false by rw[<-Q!,Z!];omega];simp only[B];rw[tH (by rw[<-n];exact z)]
end
theorem aew(h:Hp)(i:Pos)(o o':Option Ob):(h.put i o).put i o'=h.put i o':=by
 show(⟨_,_⟩:Hp)=⟨_,_⟩;rw[show(h.put i o).t=h.t.set o i from rfl,T.set_set];rfl
theorem aal{h:Hp}(a b:Bool):aJ .neq .bool (K a) (K b) h=D (K (decide ¬a=b)) h:=by cases a<;>cases b<;>rfl
section
variable{h h':Hp}
theorem ai8:∀{vs l:List V},vs.length<=l.length->OI vs l=some (vs++l.drop vs.length)
 | [],l,_=>rfl
 |v::vs,[],e=>by simp at e
 |v::vs,a::l,e=>by
  show y! (motive:=λ_=>Option (List V)) (OI vs l) none (λr=>some (v::r))=_;rw[ai8 (vs:=vs) (l:=l) (by simpa using e)];rfl
theorem KP:∀{n:Nat} {vs l:List V},n+vs.length<=l.length->iZ n vs l=some (l.take n++vs++l.drop (n+vs.length))
 |0,vs,l,e=>by
  rw[List.take_zero,R!,h!];exact ai8 (by omega)
 |n+1,vs,[],e=>by simp at e
 |n+1,vs,a::l,e=>by
  show y! (motive:=λ_=>Option (List V)) (iZ n vs l) none (λr=>some (a::r))=_;rw[KP (n:=n) (vs:=vs) (l:=l) (by simp at e;omega),show n+1+vs.length=(n+vs.length)+1 by omega];simp
theorem ajB{el:TypeId}{f:Bool}{w bt:Nat}{im:Pos}{d:List (List V)}{rest:List V}{i:Nat}(J:Kn h im (O (N el f) (d.flatten++rest)))(I:∀c∈d,c.length=w)(aa:0<w)(hi:i<d.length):
  ∃x h' mid,eY w (.slice im 0 d.length (.un w)) (some (Y U ((i:Int)+1))) none none h=D x h/\cZ el w bt (.slice im 0 i (.un w)) x h=D (.slice im 0 (d.length - 1) (.un w)) h'/\
   Kn h' im (O (N el f) ((d.eraseIdx i).flatten++mid++rest))/\mid.length=w/\Ch (λj=>j=im) h h':=by
 have hl:=gW I;have u:eY w (.slice im 0 d.length (.un w)) (some (Y U ((i:Int)+1))) none none h=(match u! (i+1) d.length with
   |true=>R.ok (.slice im ((i+1)*w) (d.length - (i+1)) (.un w)) h
   |false=>D .emp h):=by
  show(match v! d.length d.length,v! (i+1) d.length,n! w w with
     |true,true,true=>(match u! (i+1) d.length with
      |true=>dY (0+(i+1)*w) λq=>dY (d.length - (i+1)) λn=>R.ok (V.slice im q n (.un w)) h
      |false=>D .emp h)
     |_,_,_=>R.bad)=_
  rw[J! (A! _),J! (show i+1<=d.length from hi),e!];simp only[dF,h!]
 have ab:∀c∈d.drop (i+1),c.length=w:=λc L=>I c (K! L);have s:=gW ab;rw[o!]at s;by_cases W:i+1<d.length
 ·rw[show u! (i+1) d.length=true by rw[D!];exact W]at u;have ac:(d.length - (i+1))*w+(i+1)*w=d.length*w:=by rw[<-Y!];congr 1;omega
  have B:(i+1)*w=i*w+w:=d! i w;have ad:0<(d.length - (i+1))*w:=Nat.mul_pos (by omega) aa;have G:∀k:Nat->List V->R V,vT w (.slice im ((i+1)*w) (d.length - (i+1)) (.un w)) h k=k (d.length - (i+1)) (d.drop (i+1)).flatten:=λk=>by
   show dP h im _=_;rw[dM (wr:=N el f) (all:=d.flatten++rest) (by rw[J.1];rfl),vP (cs:=(d.drop (i+1)).flatten) (λq hq=>?_) (by rw[s])];rw[List.getElem?_append_left (by omega),<-acP (i+1) I,r!]
  obtain⟨r,y⟩:∃r,r=(d.flatten++rest).take (i*w)++(d.drop (i+1)).flatten++(d.flatten++rest).drop (i*w+(d.drop (i+1)).flatten.length):=⟨_,rfl⟩
  have C:iZ (0+i*w) (d.drop (i+1)).flatten (d.flatten++rest)=some r:=by
   rw[h!,y];exact KP (by rw[s,a!];omega)
  have Z:gm (i*w) (fB 0 (d.flatten++rest))=some ((d.flatten++rest).take (i*w)):=by rw[jH,l!,Fq (by rw[a!];omega)]
  have z:∃a t,fB (i*w) (fB 0 (d.flatten++rest))=a::t:=by
   rw[jH,jH,l!];have:((d.flatten++rest).drop (i*w)).length≠0:=by rw[o!,a!];omega
   match hq:(d.flatten++rest).drop (i*w) with
   | []=>rw[hq]at this;simp at this
   |a::t=>exact⟨a,t,rfl⟩
  obtain⟨a,t,z⟩:=z;refine⟨_,h.put im (some (O (N el f) r)),d.flatten.drop (d.length*w - w),u,?_,?_,by rw[o!];omega,Ch.put _ _ rfl⟩
  ·unfold cZ;rw[G];obtain⟨m,hm⟩:∃m,d.length - (i+1)=m+1:=⟨d.length - (i+1) - 1,by omega⟩
   rw[hm];simp only[];rw[dM (wr:=N el f) (all:=d.flatten++rest) (by rw[J.1];rfl)];simp only[dF,e!,Z,z,C];rw[show i+(m+1)=d.length - 1 by omega]
  ·have e:r=(d.eraseIdx i).flatten++d.flatten.drop (d.length*w - w)++rest:=by
    rw[y,List.take_append_of_le_length (by omega),TA i I,w!,k!,s,List.drop_append_of_le_length (by omega)];rw[show i*w+(d.length - (i+1))*w=d.length*w - w by omega];simp[j!]
   rw[<-e];exact J.put _
 ·have M:i+1=d.length:=by omega
  rw[show u! (i+1) d.length=false by cases hb:u! (i+1) d.length;rfl;rw[D!]at hb;omega]at u;have B:(i+1)*w=i*w+w:=d! i w;refine⟨.emp,h,(d.drop i).flatten,u,?_,?_,?_,Ch.refl _ _⟩
  ·show R.ok (V.slice im 0 i (.un w)) h=_;rw[show i=d.length - 1 by omega]
  ·have e:(d.eraseIdx i).flatten++(d.drop i).flatten=d.flatten:=by
    rw[w!,M,List.drop_length,B!,<-k!,List.take_append_drop]
   rw[e];exact J
  ·rw[gW λc L=>I c (K! L),o!,show d.length - i=1 by omega,Nat.one_mul]
theorem anX{el:TypeId}{f:Bool}{w n:Nat}{im:Pos}{cs mid rest zs:List V}(e:Kn h im (O (N el f) (cs++mid++rest)))(r:cs.length=n*w)(z:mid.length=w)(q:zs.length=w)(y:0<w):
  ∃x h' u,Ej w (.slice im 0 n (.un w)) (Y U (n:Int)) (Y U ((n:Int)+1)) h=D x h/\KT zs x h=D u h'/\Kn h' im (O (N el f) (cs++(zs++rest)))/\Ch (λj=>j=im) h h':=by
 have a:n*w+w<=(cs++mid++rest).length:=by rw[a!,a!];omega
 have k:(n+1)*w=n*w+w:=d! n w;have e1:Ej w (.slice im 0 n (.un w)) (Y U (n:Int)) (Y U ((n:Int)+1)) h=D (.slice im (n*w) 1 (.un w)) h:=by
  show(match v! (n+1) n with
   |true=>eY w (.slice im 0 n (.un w)) (some (Y U (n:Int))) (some (Y U ((n:Int)+1))) none h
   |false=>XV w im 0 w n (n+1) h)=_
  rw[show v! (n+1) n=false by rw[<-Q!,Z!];omega];show dP h im _=_;rw[dM (wr:=N el f) (all:=cs++mid++rest) (by rw[e.1];rfl),jH,l!,Fq (by omega)];rw[show u! n (n+1)=true by rw[D!];omega,e!,show n! w 0=false by cases hb:n! w 0;rfl;have:=Nat.eq_of_beq_eq_true hb;omega];simp only[dF,h!];rw[show n+1 - n=1 by omega]
 have c:iZ (n*w) (times 1 zs) (cs++mid++rest)=some (cs++(zs++rest)):=by
  have s:times 1 zs=zs:=by show zs++times 0 zs=zs;exact B! _
  rw[s,KP (by rw[q];exact a),q];congr 1;rw[j! cs mid rest,<-r,U!,<-j!,j! cs zs];rw[show cs.length+w=cs.length+mid.length by omega,<-C!,j! cs mid rest,q!,q!]
 refine⟨_,h.put im (some (O (N el f) (cs++(zs++rest)))),V.undef,e1,?_,e.put _,Ch.put _ _ rfl⟩;show dP h im (λwr cs=>(match wr with
   |N t f=>(match iZ (n*w) (times 1 zs) cs with|some d=>R.ok V.undef (h.put im (some (O (N t f) d)))|none=>.bad)
   | .ro=>.bad))=_
 rw[dM (wr:=N el f) (all:=cs++mid++rest) (by rw[e.1];rfl)];simp only[c]
end
theorem vvB:type_of% vvA/\type_of% vqK/\type_of% @avt/\type_of% @avr:=⟨vvA,vqK,@avt,@avr⟩
theorem qK0{p:Prop}(h:p:=by simp only[vvB,Nat.reduceEqDiff,reduceCtorEq,↓reduceIte]):p:=h
theorem qK1{p:Prop}(h:p:=by simp only[vvB,Nat.reduceEqDiff,reduceCtorEq,↓reduceIte]<;>rfl):p:=h
theorem qK2{p q:Prop}(f:q)(h:q->p:=by intro f;simp only[vvB,Nat.reduceEqDiff,reduceCtorEq,↓reduceIte,f]):p:=h f
theorem qK3{p q:Prop}(f:q)(h:q->p:=by intro f;simp only[vvB,Nat.reduceEqDiff,reduceCtorEq,↓reduceIte,f]<;>rfl):p:=h f
theorem qT0{p:Prop}(h:p:=by simp only[bW,vvB,Nat.reduceEqDiff,reduceCtorEq,↓reduceIte,bZ]<;>rfl):p:=h
theorem qT1{p q:Prop}(f:q)(h:q->p:=by intro f;simp only[bW,vvB,Nat.reduceEqDiff,reduceCtorEq,↓reduceIte,f,bZ]<;>rfl):p:=h f
theorem mkW(h:Hp)(o:Ob):∃h',h'=h.new o/\Nw h h'/\Kn h' h.next o:=⟨_,rfl,Nw.new _ _,Kn.new _ _⟩
end Go.Vm
namespace Go.Im
structure Bx where
 id:Int
 name:List Nat
 par:Int
 valid:Int
 next:Int
 mod:Int
structure Ml where
 id:Int
 thread:Int
 text:List Nat
 at_:Int
 keys:List (List Nat)
 mem:List (Int×Int)
 mod:Int
 born:Int
structure En where
 mod:Int
 kind:Int
 id:Int
 how:Int
structure Acc where
 clock:Int
 boxes:List Bx
 aP:List Ml
 ents:List En
 floor:Int
 lastBox:Int
 lastId:Int
 octets:Int
abbrev iV(n:Int):V:=Y U n
def fF(b:Bx):List V:= [iV b.id,H b.name,iV b.par,iV b.valid,iV b.next,iV b.mod]
def gu(e:En):List V:= [iV e.mod,iV e.kind,iV e.id,iV e.how]
def fD(m:Int×Int):List V:= [iV m.1,iV m.2]
def ji(s:List Nat):List V:= [H s]
def gV(n:Int):List V:= [iV n]
def dB(m:Ml)(vk vm:V):List V:= [iV m.id,iV m.thread,H m.text,iV m.at_,vk,vm,iV m.mod,iV m.born]
def jf:El Ml:=λP h m cs=>∃vk vm,cs=dB m vk vm/\Rws P (flat ji) 1 h vk m.keys/\Rws P (flat fD) 2 h vm m.mem
theorem dw:jf.Stable:=λ⟨vk,vm,e,a,b⟩ c d=>⟨vk,vm,e,a.ch (aK _) c d,b.ch (aK _) c d⟩
def stC(A:Acc)(ib:Pos)(cb:Cap)(vm:V)(pl:Pos):List V:=
 [H [117],H [112],iV 1000,iV 100,iV 1048576,iV 1073741824,iV 1073741824,iV 10000,iV 200,iV A.clock,.slice ib 0 A.boxes.length cb,vm,X pl 0,iV A.lastBox,iV A.lastId,iV A.octets]
def aDg(tM:TypeId)(I:Pos->Prop)(h:Hp)(v:V)(l:List Ml):Prop:=
 ∃a,All2 (jf I h) l a/\(∀c∈a,c.length=8)/\((l= []/\v=.aQ)\/∃i f rest,v=.slice i 0 l.length (.un 8)/\Kn h i (O (N tM f) (a.flatten++rest)))
structure AccR (tS tL tB tM tE:TypeId) (h:Hp) (F:Pos->Prop) (ps:Pos) (A:Acc) (pl ib:Pos) (cb:Cap) (fb:Bool) (vm vl:V) (I:Pos->Prop):Prop where
 st:Kn h ps (O (N tS true) (stC A ib cb vm pl))
 lg:Kn h pl (O (N tL true) [iV 10000,vl,iV A.floor])
 bx:Kn h ib (O (N tB fb) (A.boxes.map fF).flatten)
 cap:yB 6 (.slice ib 0 A.boxes.length cb)
 ml:aDg tM I h vm A.aP
 en:dH 0 (λ_=>False) (flat gu) tE 4 h vl A.ents
 ne:ps≠pl/\ps≠ib/\pl≠ib
 nm:∀j,bH vm=some j->j≠ps/\j≠pl/\j≠ib/\bH vl≠some j
 nl:∀j,bH vl=some j->j≠ps/\j≠pl/\j≠ib
 inn:∀j,I j->F j/\j≠ps/\j≠pl/\j≠ib/\bH vm≠some j/\bH vl≠some j
 foot:F ps/\F pl/\F ib/\(∀j,bH vm=some j->F j)/\∀j,bH vl=some j->F j
 lt:∀j,F j->j.nat<h.next.nat
 enil:A.ents= []->vl=.aQ
structure Acc.Small (A:Acc):Prop where
 clock:0<=A.clock/\A.clock<1000000
 boxes:0<A.boxes.length/\A.boxes.length<=1000
 aP:A.aP.length<=1000
 ents:A.ents.length<=9000
 each:∀m∈A.aP,m.keys.length<=1000/\m.mem.length<=1000
end Go.Im
namespace Go.Proofs.Im
def wds:List (List Nat)->Wds
 | []=>.nil
 |t::l=>.cons 1 t .nil (wds l)
def oZ(l:List (List (List Nat))):List Ln.Got:=l.map λw=>⟨1,wds w⟩
section
variable{P:Pos->Prop}{h:Hp}{p:Pos}{a b:List (List Nat)}
theorem ayX:∀l:List (List Nat),WAt P h (wds l) (Ik.wC l)
 | []=>rfl
 |t::l=>⟨.aQ,[],Ik.wC l,rfl,Ow.nil _ _ _ _,λj e=>(by cases e),rfl,ayX l⟩
theorem alE:∀l:List (List Nat),(wds l).len=l.length
 | []=>rfl
 |_::l=>congrArg (· +1) (alE l)
theorem ayY:∀l:List (List Nat),(Ik.wC l).length=l.length*3
 | []=>rfl
 |_::l=>by rw[x!,d!,<-ayY l];rfl
theorem alD(k:Kn h p (Ik.wOb a))(c:P p):QT P h (.slice p 0 a.length (.un 3)) (wds a):=
 ⟨Ik.wC a,⟨by rw[alE,ayY],.inr ⟨p,by rw[alE],z! _,k.2,false,k.1⟩⟩,λj e=>by cases e;exact c,ayX a⟩
theorem aJ8(c:P h.next)(d:P h.next.succ):Told P ((h.new (Ik.wOb a)).new (Ik.gOb h.next [a])) (.slice h.next.succ 0 1 (.un 2)) (oZ [a]):=
 have k:=Kn.new (h.new (Ik.wOb a)) (Ik.gOb h.next [a])
 ⟨_,⟨rfl,.inr ⟨h.next.succ,rfl,z! _,k.2,false,k.1⟩⟩,λj e=>by cases e;exact d,_,_,rfl,alD ((Kn.new h (Ik.wOb a)).add _) c,rfl⟩
theorem axi(c:P h.next)(d:P h.next.succ)(f:P h.next.succ.succ):Told P (((h.new (Ik.wOb a)).new (Ik.wOb b)).new (Ik.gOb h.next [a,b])) (.slice h.next.succ.succ 0 2 (.un 2)) (oZ [a,b]):=
 have k:=Kn.new ((h.new (Ik.wOb a)).new (Ik.wOb b)) (Ik.gOb h.next [a,b])
 ⟨_,⟨rfl,.inr ⟨h.next.succ.succ,rfl,z! _,k.2,false,k.1⟩⟩,λj e=>by cases e;exact f,_,_,rfl,alD (((Kn.new h (Ik.wOb a)).add _).add _) c,_,_,rfl,alD ((Kn.new (h.new (Ik.wOb a)) (Ik.wOb b)).add _) d,rfl⟩
def Fed(s:List Nat)(gs:List Ln.Got):Prop:=s.length<=1000/\gs.length<=1000/\∀h:Hp,Ik.aH<=h.next.nat->
 ∃v c,Ik.uQ [X h.next 0,.slice h.next.succ 0 s.length (.un 1)] ((h.new Ik.rdO).new (.bytes (bys s)))=D v c/\Nw h c/\Told (λj=>h.next.nat<=j.nat/\j.nat<c.next.nat) c v gs
theorem Fed.mk1{s:List Nat}(g:s.length<=1000)(f:∀{h:Hp} {i j:Pos},Ik.aH<=i.nat->i.nat<h.next.nat->Ik.aH<=j.nat->j.nat<h.next.nat->i≠j->h.get i=some Ik.rdO->h.get j=some (Ik.bOb s)->
  Ik.uQ [X i 0,.slice j 0 s.length (.un 1)] h=D (.slice h.next.succ 0 1 (.un 2)) ((h.new (Ik.wOb a)).new (Ik.gOb h.next [a]))):Fed s (oZ [a]):=by
 refine⟨g,by simp[oZ],λh hG=>?_⟩;have c:=(Kn.new h Ik.rdO).add (.bytes (bys s))
 have d:=Kn.new (h.new Ik.rdO) (.bytes (bys s));have m:h.next.succ.nat=h.next.nat+1:=Pos.fA _;have k:(h.new Ik.rdO).next.nat=h.next.nat+1:=bD _ _;have l:((h.new Ik.rdO).new (.bytes (bys s))).next.nat=h.next.nat+2:=by rw[bD,k]
 have n:((h.new Ik.rdO).new (.bytes (bys s))).next.succ.nat=h.next.nat+3:=by rw[Pos.fA,l]
 refine⟨_,_,f hG c.2 (by show Ik.aH<=h.next.succ.nat;omega) d.2 (λe=>by have:=congrArg Pos.nat e;omega) c.1 d.1,(((Nw.new _ _).trans (Nw.new _ _)).trans (Nw.new _ _)).trans (Nw.new _ _),aJ8 ?_ ?_⟩;all_goals simp only[bD];omega
theorem Fed.mk2{s:List Nat}(g:s.length<=1000)(f:∀{h:Hp} {i j:Pos},Ik.aH<=i.nat->i.nat<h.next.nat->Ik.aH<=j.nat->j.nat<h.next.nat->i≠j->h.get i=some Ik.rdO->h.get j=some (Ik.bOb s)->
  Ik.uQ [X i 0,.slice j 0 s.length (.un 1)] h=D (.slice h.next.succ.succ 0 2 (.un 2)) (((h.new (Ik.wOb a)).new (Ik.wOb b)).new (Ik.gOb h.next [a,b]))):Fed s (oZ [a,b]):=by
 refine⟨g,by simp[oZ],λh hG=>?_⟩;have c:=(Kn.new h Ik.rdO).add (.bytes (bys s))
 have d:=Kn.new (h.new Ik.rdO) (.bytes (bys s));have n:h.next.succ.nat=h.next.nat+1:=Pos.fA _;have k:(h.new Ik.rdO).next.nat=h.next.nat+1:=bD _ _;have l:((h.new Ik.rdO).new (.bytes (bys s))).next.nat=h.next.nat+2:=by rw[bD,k]
 have m:((h.new Ik.rdO).new (.bytes (bys s))).next.succ.nat=h.next.nat+3:=by rw[Pos.fA,l]
 have o:((h.new Ik.rdO).new (.bytes (bys s))).next.succ.succ.nat=h.next.nat+4:=by rw[Pos.fA,m]
 refine⟨_,_,f hG c.2 (by show Ik.aH<=h.next.succ.nat;omega) d.2 (λe=>by have:=congrArg Pos.nat e;omega) c.1 d.1,((((Nw.new _ _).trans (Nw.new _ _)).trans (Nw.new _ _)).trans (Nw.new _ _)).trans (Nw.new _ _),axi ?_ ?_ ?_⟩;all_goals simp only[bD];omega
theorem aKr:Fed Ik.fsA (oZ Ik.flA):=Fed.mk2 (by decide) Ik.aKV
theorem aKq:Fed Ik.fsB (oZ Ik.flB):=Fed.mk1 (by decide) Ik.aKU
theorem aKp:Fed Ik.fsC (oZ Ik.flC):=Fed.mk2 (by decide) Ik.aKT
theorem aKo:Fed Ik.fsD (oZ Ik.flD):=Fed.mk1 (by decide) Ik.aKS
theorem aKn:Fed Ik.fsE (oZ Ik.flE):=Fed.mk2 (by decide) Ik.aKR
theorem aKm:Fed Ik.fsF (oZ Ik.flF):=Fed.mk1 (by decide) Ik.aKQ
end
end Go.Proofs.Im
