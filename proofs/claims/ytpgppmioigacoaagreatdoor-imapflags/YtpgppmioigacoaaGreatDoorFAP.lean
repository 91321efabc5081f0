/- Lemmas. No conditions. -/
import Derived.Test.YtpgppmioigacoaaGreatDoorFAM
import Derived.Test.YtpgppmioigacoaaGreatDoorFAN
import Derived.Test.YtpgppmioigacoaaGreatDoorFAO
import Derived.Test.YtpgppmioigacoaaGreatDoorFAH
import Derived.Test.YtpgppmioigacoaaGreatDoorFAI
set_option linter.all false
set_option maxRecDepth 100000
open List renaming flatten_cons→a!,getElem?_eq_some_iff→b!,length_cons→d!,length_append→h!,findIdx?_eq_some_iff_getElem→k!,mem_append→q!,findIdx?_eq_none_iff→r!,getElem?_eq_getElem→t!,length_eq_zero_iff→u!,mem_of_getElem?→x!,flatten_append→z!,getElem?_drop→A!,getElem_mem→B!,any_eq_true→C!,all_eq_true→D!,nil_append→E!,drop_zero→G!,drop_left→H!,drop_drop→I!,mem_map→J!,range'→N!
open Nat renaming succ_mul→c!,beq_refl→g!,zero_add→i!,ne_of_beq_eq_false→j!,beq→l!,zero_le→o!,le_refl→p!,add_comm→v!,le_of_ble_eq_true→w!,zero_mul→K!,le_trans→L!,ble→M!
open Go.Vm.Pos renaming of→e!
open Option renaming casesOn→n!
open Bool renaming or_eq_false_iff→y!,eq_iff_iff→F!
open Go.Vm.V renaming int→Y,ptr→X,bool→K,str→H
open Go.IntKind renaming i64→U
open Go.Vm.Ob renaming cells→O
open Go.Vm.Wr renaming rw→N
open Go.Vm.R renaming ok→D
noncomputable section
open Go Go.Proofs Go.Vm Go.Ln Go.Proofs.Ik
namespace Go.Proofs.Ik
def afd:Tab:=aQL::aQK::((N! 1 9).map qp++((N! 1 9).flatMap λk=>(List.range 5).flatMap λf=> [dJ true f k,dJ false f k]))
def okF:∀k:Nat,1<=k->k<10->bP (qp k)=true
 |0,h,_=>absurd h (by decide)
 |1,_,_=>aSU
 |2,_,_=>aST
 |3,_,_=>aSS
 |4,_,_=>aSR
 |5,_,_=>aSQ
 |6,_,_=>aSP
 |7,_,_=>aSO
 |8,_,_=>aSN
 |9,_,_=>aSM
 |_+10,_,h=>absurd h (by omega)
def aTL:∀(s:Bool) (f:Nat),f<5->bP (dJ s f 1)=true
 |true,0,_=>aPM
 |false,0,_=>aQv
 |true,1,_=>aPD
 |false,1,_=>aQm
 |true,2,_=>aPu
 |false,2,_=>aQd
 |true,3,_=>aPl
 |false,3,_=>aP4
 |true,4,_=>aPc
 |false,4,_=>aPV
 |_,_+5,h=>absurd h (by omega)
def aTK:∀(s:Bool) (f:Nat),f<5->bP (dJ s f 2)=true
 |true,0,_=>aPL
 |false,0,_=>aQu
 |true,1,_=>aPC
 |false,1,_=>aQl
 |true,2,_=>aPt
 |false,2,_=>aQc
 |true,3,_=>aPk
 |false,3,_=>aP3
 |true,4,_=>aPb
 |false,4,_=>aPU
 |_,_+5,h=>absurd h (by omega)
def aTJ:∀(s:Bool) (f:Nat),f<5->bP (dJ s f 3)=true
 |true,0,_=>aPK
 |false,0,_=>aQt
 |true,1,_=>aPB
 |false,1,_=>aQk
 |true,2,_=>aPs
 |false,2,_=>aQb
 |true,3,_=>aPj
 |false,3,_=>aP2
 |true,4,_=>aPa
 |false,4,_=>aPT
 |_,_+5,h=>absurd h (by omega)
def aTI:∀(s:Bool) (f:Nat),f<5->bP (dJ s f 4)=true
 |true,0,_=>aPJ
 |false,0,_=>aQs
 |true,1,_=>aPA
 |false,1,_=>aQj
 |true,2,_=>aPr
 |false,2,_=>aQa
 |true,3,_=>aPi
 |false,3,_=>aP1
 |true,4,_=>aO9
 |false,4,_=>aPS
 |_,_+5,h=>absurd h (by omega)
def aTH:∀(s:Bool) (f:Nat),f<5->bP (dJ s f 5)=true
 |true,0,_=>aPI
 |false,0,_=>aQr
 |true,1,_=>aPz
 |false,1,_=>aQi
 |true,2,_=>aPq
 |false,2,_=>aP9
 |true,3,_=>aPh
 |false,3,_=>aP0
 |true,4,_=>aO8
 |false,4,_=>aPR
 |_,_+5,h=>absurd h (by omega)
def aTG:∀(s:Bool) (f:Nat),f<5->bP (dJ s f 6)=true
 |true,0,_=>aPH
 |false,0,_=>aQq
 |true,1,_=>aPy
 |false,1,_=>aQh
 |true,2,_=>aPp
 |false,2,_=>aP8
 |true,3,_=>aPg
 |false,3,_=>aPZ
 |true,4,_=>aO7
 |false,4,_=>aPQ
 |_,_+5,h=>absurd h (by omega)
def aTF:∀(s:Bool) (f:Nat),f<5->bP (dJ s f 7)=true
 |true,0,_=>aPG
 |false,0,_=>aQp
 |true,1,_=>aPx
 |false,1,_=>aQg
 |true,2,_=>aPo
 |false,2,_=>aP7
 |true,3,_=>aPf
 |false,3,_=>aPY
 |true,4,_=>aO6
 |false,4,_=>aPP
 |_,_+5,h=>absurd h (by omega)
def aTE:∀(s:Bool) (f:Nat),f<5->bP (dJ s f 8)=true
 |true,0,_=>aPF
 |false,0,_=>aQo
 |true,1,_=>aPw
 |false,1,_=>aQf
 |true,2,_=>aPn
 |false,2,_=>aP6
 |true,3,_=>aPe
 |false,3,_=>aPX
 |true,4,_=>aO5
 |false,4,_=>aPO
 |_,_+5,h=>absurd h (by omega)
def aTD:∀(s:Bool) (f:Nat),f<5->bP (dJ s f 9)=true
 |true,0,_=>aPE
 |false,0,_=>aQn
 |true,1,_=>aPv
 |false,1,_=>aQe
 |true,2,_=>aPm
 |false,2,_=>aP5
 |true,3,_=>aPd
 |false,3,_=>aPW
 |true,4,_=>aO4
 |false,4,_=>aPN
 |_,_+5,h=>absurd h (by omega)
def okS:∀(k:Nat),1<=k->k<10->∀(s:Bool) (f:Nat),f<5->bP (dJ s f k)=true
 |0,h,_=>absurd h (by decide)
 |1,_,_=>aTL
 |2,_,_=>aTK
 |3,_,_=>aTJ
 |4,_,_=>aTI
 |5,_,_=>aTH
 |6,_,_=>aTG
 |7,_,_=>aTF
 |8,_,_=>aTE
 |9,_,_=>aTD
 |_+10,_,h=>absurd h (by omega)
def aKu:∀e∈afd,bP e=true:=λe b=>by
 unfold afd at b;simp only[List.mem_cons,q!,J!,List.mem_range'_1,List.mem_flatMap,List.mem_range,List.not_mem_nil,or_false]at b;rcases b with rfl|rfl|⟨k,a,rfl⟩|⟨k,a,f,c,rfl|rfl⟩
 ·exact okA
 ·exact okN
 ·exact okF k a.1 (by omega)
 ·exact okS k a.1 (by omega) _ f c
 ·exact okS k a.1 (by omega) _ f c
def aqM:Fun:=abf afd
def aNF:fu 41 aqM:=awg aKu
def lookA:Ti afd fsA=some flA:=kR
def aS1:Ti afd fsN=some flN:=kR
def aS2:∀k:Nat,1<=k->k<10->Ti afd (awf k)=some [aIr k]
 |0,h,_=>absurd h (by decide)
 |1,_,_=>by kernel_rfl
 |2,_,_=>by kernel_rfl
 |3,_,_=>by kernel_rfl
 |4,_,_=>by kernel_rfl
 |5,_,_=>by kernel_rfl
 |6,_,_=>by kernel_rfl
 |7,_,_=>by kernel_rfl
 |8,_,_=>by kernel_rfl
 |9,_,_=>by kernel_rfl
 |_+10,_,h=>absurd h (by omega)
def aS0:∀(k:Nat),1<=k->k<10->∀(s:Bool) (f:Nat),f<5->Ti afd (auQ s f k)=some [aHB s f k]
 |0,h,_=>absurd h (by decide)
 |1,_,_=>λs f a=>match s,f,a with
  |true,0,_=>by kernel_rfl
  |false,0,_=>by kernel_rfl
  |true,1,_=>by kernel_rfl
  |false,1,_=>by kernel_rfl
  |true,2,_=>by kernel_rfl
  |false,2,_=>by kernel_rfl
  |true,3,_=>by kernel_rfl
  |false,3,_=>by kernel_rfl
  |true,4,_=>by kernel_rfl
  |false,4,_=>by kernel_rfl
  |_,_+5,h=>absurd h (by omega)
 |2,_,_=>λs f a=>match s,f,a with
  |true,0,_=>by kernel_rfl
  |false,0,_=>by kernel_rfl
  |true,1,_=>by kernel_rfl
  |false,1,_=>by kernel_rfl
  |true,2,_=>by kernel_rfl
  |false,2,_=>by kernel_rfl
  |true,3,_=>by kernel_rfl
  |false,3,_=>by kernel_rfl
  |true,4,_=>by kernel_rfl
  |false,4,_=>by kernel_rfl
  |_,_+5,h=>absurd h (by omega)
 |3,_,_=>λs f a=>match s,f,a with
  |true,0,_=>by kernel_rfl
  |false,0,_=>by kernel_rfl
  |true,1,_=>by kernel_rfl
  |false,1,_=>by kernel_rfl
  |true,2,_=>by kernel_rfl
  |false,2,_=>by kernel_rfl
  |true,3,_=>by kernel_rfl
  |false,3,_=>by kernel_rfl
  |true,4,_=>by kernel_rfl
  |false,4,_=>by kernel_rfl
  |_,_+5,h=>absurd h (by omega)
 |4,_,_=>λs f a=>match s,f,a with
  |true,0,_=>by kernel_rfl
  |false,0,_=>by kernel_rfl
  |true,1,_=>by kernel_rfl
  |false,1,_=>by kernel_rfl
  |true,2,_=>by kernel_rfl
  |false,2,_=>by kernel_rfl
  |true,3,_=>by kernel_rfl
  |false,3,_=>by kernel_rfl
  |true,4,_=>by kernel_rfl
  |false,4,_=>by kernel_rfl
  |_,_+5,h=>absurd h (by omega)
 |5,_,_=>λs f a=>match s,f,a with
  |true,0,_=>by kernel_rfl
  |false,0,_=>by kernel_rfl
  |true,1,_=>by kernel_rfl
  |false,1,_=>by kernel_rfl
  |true,2,_=>by kernel_rfl
  |false,2,_=>by kernel_rfl
  |true,3,_=>by kernel_rfl
  |false,3,_=>by kernel_rfl
  |true,4,_=>by kernel_rfl
  |false,4,_=>by kernel_rfl
  |_,_+5,h=>absurd h (by omega)
 |6,_,_=>λs f a=>match s,f,a with
  |true,0,_=>by kernel_rfl
  |false,0,_=>by kernel_rfl
  |true,1,_=>by kernel_rfl
  |false,1,_=>by kernel_rfl
  |true,2,_=>by kernel_rfl
  |false,2,_=>by kernel_rfl
  |true,3,_=>by kernel_rfl
  |false,3,_=>by kernel_rfl
  |true,4,_=>by kernel_rfl
  |false,4,_=>by kernel_rfl
  |_,_+5,h=>absurd h (by omega)
 |7,_,_=>λs f a=>match s,f,a with
  |true,0,_=>by kernel_rfl
  |false,0,_=>by kernel_rfl
  |true,1,_=>by kernel_rfl
  |false,1,_=>by kernel_rfl
  |true,2,_=>by kernel_rfl
  |false,2,_=>by kernel_rfl
  |true,3,_=>by kernel_rfl
  |false,3,_=>by kernel_rfl
  |true,4,_=>by kernel_rfl
  |false,4,_=>by kernel_rfl
  |_,_+5,h=>absurd h (by omega)
 |8,_,_=>λs f a=>match s,f,a with
  |true,0,_=>by kernel_rfl
  |false,0,_=>by kernel_rfl
  |true,1,_=>by kernel_rfl
  |false,1,_=>by kernel_rfl
  |true,2,_=>by kernel_rfl
  |false,2,_=>by kernel_rfl
  |true,3,_=>by kernel_rfl
  |false,3,_=>by kernel_rfl
  |true,4,_=>by kernel_rfl
  |false,4,_=>by kernel_rfl
  |_,_+5,h=>absurd h (by omega)
 |9,_,_=>λs f a=>match s,f,a with
  |true,0,_=>by kernel_rfl
  |false,0,_=>by kernel_rfl
  |true,1,_=>by kernel_rfl
  |false,1,_=>by kernel_rfl
  |true,2,_=>by kernel_rfl
  |false,2,_=>by kernel_rfl
  |true,3,_=>by kernel_rfl
  |false,3,_=>by kernel_rfl
  |true,4,_=>by kernel_rfl
  |false,4,_=>by kernel_rfl
  |_,_+5,h=>absurd h (by omega)
 |_+10,_,h=>absurd h (by omega)
end Go.Proofs.Ik
namespace Go.Vm
section
variable{h h' g f:Hp}{i j:Pos}{o o':Ob}{S:Pos->Prop}{P:Program}
abbrev Nw(h h':Hp):Prop:=Ch (λ_=>False) h h'
def Nw.refl(h:Hp):Nw h h:=Ch.refl _ _
def Nw.trans(a:Nw h g)(b:Nw g f):Nw h f:=Ch.trans a b λ_ _ q=>q
def Nw.new(h:Hp)(o:Ob):Nw h (h.new o):=Ch.new _ _ _
def Nw.ch(c:Nw h g):Ch S h g:=c.mono λ_ _ q=>q.elim
def Nw.put(c:Nw h g)(hi:h.next.nat<=i.nat)(x:Option Ob):Nw h (g.put i x):=
 Ch.trans c (Ch.put (S:=λj=>j=i) g x rfl) λj hj q=>by rw[q]at hj;omega
def Nw.then(c:Nw h g)(d:Ch S g f)(a:∀j:Pos,j.nat<h.next.nat->S j->False):Nw h f:=Ch.trans c d a
def Ch.nw(c:Ch S h g)(d:Nw g f):Ch S h f:=c.trans d λ_ _ q=>q.elim
def Kn(h:Hp)(i:Pos)(o:Ob):Prop:=h.get i=some o/\i.nat<h.next.nat
def Kn.new(h:Hp)(o:Ob):Kn (h.new o) h.next o:=⟨dY _ _,by rw[bJ];omega⟩
def Kn.ch(k:Kn h i o)(c:Ch S h g)(a:¬S i):Kn g i o:=⟨(c.get i k.2 a).trans k.1,Nat.lt_of_lt_of_le k.2 c.next⟩
def Kn.nw(k:Kn h i o)(c:Nw h g):Kn g i o:=k.ch c λq=>q
def Kn.add(k:Kn h i o)(o':Ob):Kn (h.new o') i o:=k.nw (Nw.new _ _)
def Kn.put(k:Kn h i o)(o':Ob):Kn (h.put i (some o')) i o':=⟨kJ _ _ _,k.2⟩
def Kn.Us(k:Kn h i o)(hn:i≠j)(x:Option Ob):Kn (h.put j x) i o:=⟨(Go.Vm.Us h (aC4 hn) x).trans k.1,k.2⟩
def Kn.ld{w:Wr}{cs:List V}{q:Nat}{x:V}(k:Kn h i (O w cs))(a:cs[q]?=some x):aF (X i q) h=D x h:=by
 rw[ED k.1,a]
def Kn.ldN{w:Wr}{cs:List V}{n:Nat}(k:Kn h i (O w cs))(hn:cs.length=n):bH n (X i 0) h=D (.agg (V.ofList cs)) h:=by
 show dV h i _=_;rw[dW (wr:=w) (all:=cs) (by rw[k.1];rfl),jU,G!,<-hn,afc]
def Kn.st{t:TypeId}{f:Bool}{cs:List V}{q:Nat}{y:V}(k:Kn h i (O (N t f) cs))(c:y.cells= [y]/\ig y=true)(a:q<cs.length):
  aS 1 (X i q) y h=D V.undef (h.put i (some (O (N t f) (cs.set q y)))):=afm k.1 c a
def aaL:∀{n:Nat} {x l:List V},x.length=n->l.length=n->jo 0 x l=some x
 |0,[],[],_,_=>rfl
 |n+1,a::x,b::l,c,hl=>by
  show n! (motive:=λ_=>Option (List V)) (jo 0 x l) none (λr=>some (a::r))=_;rw[aaL (n:=n) (by simpa using c) (by simpa using hl)]
 |0,_::_,_,c,_=>by simp at c
 |0,[],_::_,_,hl=>by simp at hl
 |n+1,[],_,c,_=>by simp at c
 |n+1,_::_,[],_,hl=>by simp at hl
def Kn.stN{t:TypeId}{f:Bool}{cs l:List V}{n:Nat}(k:Kn h i (O (N t f) cs))(hl:l.length=n)(c:cs.length=n):
  aS n (X i 0) (.agg (V.ofList l)) h=D V.undef (h.put i (some (O (N t f) l))):=by
 rw[xB k.1 rfl (by show l! (V.ofList l).list.length n=true;rw[V.cZ,hl,g!])];show(match jo 0 (V.ofList l).list cs with|some a=>R.ok V.undef (h.put i (some (O (N t f) a)))|none=>.bad)=_;rw[V.cZ,aaL hl c]
def T.set_set{α:Type}(x y:Option α)(p:Pos)(t:T α):(t.set x p).set y p=t.set y p:=by
 induction p generalizing t with
 |h=>cases t<;>rfl
 |o p a=>cases t with
  |nil=>exact congrArg (T.node none · .nil) (a .nil)
  |node v l r=>exact congrArg (T.node v · r) (a l)
 |i p a=>cases t with
  |nil=>exact congrArg (T.node none .nil ·) (a .nil)
  |node v l r=>exact congrArg (T.node v l ·) (a r)
def aqd(h:Hp)(o o':Ob):(h.new o).put h.next (some o')=h.new o':=by
 show(⟨_,_⟩:Hp)=⟨_,_⟩;rw[show(h.new o).t=h.t.set (some o) h.next from rfl,T.set_set];rfl
def aAl(t:TypeId)(z:List V)(h:Hp):fA t z h=D (X h.next 0) (h.new (O (N t true) z)):=(rfl)
def ah9(t:TypeId)(l:V)(h:Hp):eX t (.agg l) h=D (X h.next 0) (h.new (O (N t true) l.list)):=(rfl)
def alp(t:TypeId)(k:IntKind)(n:Int)(h:Hp):eX t (Y k n) h=D (X h.next 0) (h.new (O (N t true) [Y k n])):=(rfl)
def avv(t:TypeId)(s:List Nat)(h:Hp):eX t (H s) h=D (X h.next 0) (h.new (O (N t true) [H s])):=(rfl)
def BK{t:TypeId}{f:Bool}{z:List V}{l:V}{n:Nat}(d:l.isRow=true)(hl:l.list.length=n)(c:z.length=n):
  aS n (X h.next 0) (.agg l) (h.new (O (N t f) z))=D V.undef (h.new (O (N t f) l.list)):=by
 rw[xB (dY h _) rfl (by show l! l.list.length n=true;rw[hl,g!])];show(match jo 0 l.list z with|some a=>R.ok V.undef ((h.new (O (N t f) z)).put h.next (some (O (N t f) a)))|none=>.bad)=_;rw[aaL hl c];simp only[];rw[aqd]
def YQ{t:TypeId}{f:Bool}{z:List V}{q:Nat}{y:V}(c:y.cells= [y]/\ig y=true)(a:q<z.length):
  aS 1 (X h.next q) y (h.new (O (N t f) z))=D V.undef (h.new (O (N t f) (z.set q y))):=by
 rw[afm (dY h _) c a,aqd]
abbrev El(α:Type):=(Pos->Prop)->Hp->α->List V->Prop
def El.Stable{α:Type}(E:El α):Prop:=∀{P P' S:Pos->Prop} {h h':Hp} {a:α} {cs:List V},E P h a cs->Ch S h h'->(∀j:Pos,j.nat<h.next.nat->P j->P' j/\¬S j)->E P' h' a cs
def flat{α:Type}(c:α->List V):El α:=λ_ _ a cs=>cs=c a
def aJ{α:Type}(c:α->List V):(flat c).Stable:=λe _ _=>e
inductive All2 {α:Type} (R:α->List V->Prop):List α->List (List V)->Prop
 |nil:All2 R [] []
 |cons {a c l cs}:R a c->All2 R l cs->All2 R (a::l) (c::cs)
end
end Go.Vm
namespace Go.Vm.All2
section
variable{h h' g f:Hp}{i j:Pos}{o o':Ob}{S:Pos->Prop}{P:Program}
variable{α:Type}{R Q:α->List V->Prop}{l m:List α}{cs ds:List (List V)}
def len(a:All2 R l cs):cs.length=l.length:=by induction a<;>simp[*]
def mono(a:All2 R l cs)(d:∀a c,R a c->Q a c):All2 Q l cs:=by
 induction a with
 |nil=>exact .nil
 |cons r _ e=>exact .cons (d _ _ r) e
def append(a:All2 R l cs)(b:All2 R m ds):All2 R (l++m) (cs++ds):=by
 induction a with
 |nil=>exact b
 |cons r _ c=>exact .cons r c
def get(a:All2 R l cs):∀{k:Nat} {x:α},l[k]?=some x->∃c,cs[k]?=some c/\R x c:=by
 induction a with
 |nil=>intro k x e;simp at e
 |cons r _ d=>
  intro k x e;cases k with
  |zero=>simp at e;subst e;exact⟨_,rfl,r⟩
  |succ k=>simp at e;exact d e
def take(a:All2 R l cs):∀n,All2 R (l.take n) (cs.take n):=by
 induction a with
 |nil=>intro n;simp;exact .nil
 |cons r _ c=>intro n;cases n with
  |zero=>exact .nil
  |succ n=>exact .cons r (c n)
def drop(a:All2 R l cs):∀n,All2 R (l.drop n) (cs.drop n):=by
 induction a with
 |nil=>intro n;simp;exact .nil
 |cons r b c=>intro n;cases n with
  |zero=>exact .cons r b
  |succ n=>exact c n
def set(a:All2 R l cs):∀{k:Nat} {x:α} {c:List V},R x c->All2 R (l.set k x) (cs.set k c):=by
 induction a with
 |nil=>intro k x c _;simp;exact .nil
 |cons r b d=>intro k x c e;cases k with
  |zero=>exact .cons e b
  |succ k=>exact .cons r (d e)
end
end Go.Vm.All2
namespace Go.Vm
section
variable{h h' g f:Hp}{i j:Pos}{o o':Ob}{S:Pos->Prop}{P:Program}
def ji{w:Nat}:∀{cs:List (List V)},(∀c∈cs,c.length=w)->cs.flatten.length=cs.length*w
 | [],_=>by simp
 |c::cs,a=>by
  rw[a!,h!,a c (by simp),ji λd hd=>a d (by simp[hd]),d!,c!];omega
def Gq{w:Nat}:∀{cs:List (List V)} {k:Nat} {c:List V},(∀c∈cs,c.length=w)->cs[k]?=some c->(cs.flatten.drop (k*w)).take w=c
 | [],k,c,_,e=>by simp at e
 |d::cs,0,c,a,e=>by
  simp at e;subst e;have:=a d (by simp);rw[K!,G!,a!,<-this,List.take_left]
 |d::cs,k+1,c,a,e=>by
  have hd:=a d (by simp);rw[a!,c!,v!,<-I!,<-hd,H!,hd];exact Gq (λc n=>a c (by simp[n])) (by simpa using e)
def afQ{w:Nat}:∀{cs:List (List V)} (k:Nat),(∀c∈cs,c.length=w)->cs.flatten.take (k*w)=(cs.take k).flatten
 | [],k,_=>by simp
 |d::cs,0,a=>by simp
 |d::cs,k+1,a=>by
  have hd:=a d (by simp);rw[a!,List.take_succ_cons,a!,c!,v!,<-hd,List.take_length_add_append,hd,afQ k λc e=>a c (by simp[e])]
def ase{w:Nat}:∀{cs:List (List V)} (k:Nat),(∀c∈cs,c.length=w)->cs.flatten.drop (k*w)=(cs.drop k).flatten
 | [],k,_=>by simp
 |d::cs,0,a=>by simp
 |d::cs,k+1,a=>by
  have hd:=a d (by simp);rw[a!,List.drop_succ_cons,c!,v!,<-I!,<-hd,H!,hd,ase k λc e=>a c (by simp[e])]
def Rws{α:Type}(P:Pos->Prop)(E:El α)(w:Nat)(h:Hp)(v:V)(l:List α):Prop:=
 ∃a:List (List V),All2 (E P h) l a/\(∀c∈a,c.length=w)/\Sl h.next.nat h w v l.length a.flatten/\zn w v/\∀j,bI v=some j->P j
end
end Go.Vm
namespace Go.Vm.Rws
section
variable{h h' g f:Hp}{i j:Pos}{o o':Ob}{S:Pos->Prop}{P:Program}
variable{α:Type}{P P':Pos->Prop}{E:El α}{w:Nat}{v:V}{l:List α}
def ch(r:Rws P E w h v l)(q:E.Stable)(c:Ch S h h')(n:∀j:Pos,j.nat<h.next.nat->P j->P' j/\¬S j):Rws P' E w h' v l:=by
 obtain⟨d,a,t,s,k,p⟩:=r;exact⟨d,a.mono λ_ _ e=>q e c n,t,(s.ch c (p! _) λj hj=>(n j (s.eY hj) (p j hj)).2).le c.next,k,λj hj=>(n j (s.eY hj) (p j hj)).1⟩
def nw(r:Rws P E w h v l)(a:E.Stable)(c:Nw h h'):Rws P E w h' v l:=r.ch a c λ_ _ q=>⟨q,λq=>q⟩
def mono(r:Rws P E w h v l)(c:E.Stable)(d:∀j:Pos,j.nat<h.next.nat->P j->P' j):Rws P' E w h v l:=r.ch c (Nw.refl h) λj a b=>⟨d j a b,λq=>q⟩
def len(r:Rws P E w h v l)(g:Hp):aZ 2 v g=D (Y U (l.length:Int)) g:=by
 obtain⟨c,a,d,s,k,p⟩:=r;exact s.length
def cell(r:Rws P E w h v l):v.cells= [v]/\ig v=true:=by
 obtain⟨c,a,d,s,k,p⟩:=r;exact s.cell
def elt(r:Rws P E w h v l){k:Nat}{x:α}(e:l[k]?=some x):
  ∃i q cs,(∀g,aX w v (Y U (k:Int)) g=D (X i q) g)/\E P h x cs/\cs.length=w/\i.nat<h.next.nat/\P i/\
   (∀g,g.get i=h.get i->∀f y,cs[f]?=some y->aF (X i (q+f)) g=D y g)/\∀g,g.get i=h.get i->bH w (X i q) g=D (.agg (V.ofList cs)) g:=by
 obtain⟨G,a,u,s,kk,p⟩:=r;obtain⟨c,n,ex⟩:=a.get e;have C:k<l.length:=(b!.1 e).1;have B:=u c (x! n);obtain⟨i,q,e1,hi,e2,z⟩:=s.atN C;have t:bI v=some i:=by
  have:=e1 h;rcases s.is with⟨h0,_⟩|⟨i',o,cp,wr,all,rfl,_⟩
  ·omega
  ·rw[oD C]at this;cases this;rfl
 rw[Gq u n]at z;refine⟨i,q,c,e1,ex,B,hi,p i t,λg I f y d=>e2 g I f y ?_ ?_,z⟩
 ·rw[<-B];exact(b!.1 d).1
 ·have:=Gq u n;rw[<-this,List.getElem?_take,A!]at d;split at d
  ·exact d
  ·cases d
def aP(P:Pos->Prop)(E:El α)(w:Nat)(h:Hp):Rws P E w h .aP []:=
 ⟨[],.nil,λ_ q=>(by cases q),⟨by simp,.inl ⟨rfl,.inl rfl⟩⟩,λ_ _ _ _ e=>(by cases e),λ_ e=>(by cases e)⟩
def emp(P:Pos->Prop)(E:El α)(w:Nat)(h:Hp):Rws P E w h .emp []:=
 ⟨[],.nil,λ_ q=>(by cases q),⟨by simp,.inl ⟨rfl,.inr rfl⟩⟩,λ_ _ _ _ e=>(by cases e),λ_ e=>(by cases e)⟩
end
end Go.Vm.Rws
namespace Go.Vm
section
variable{h h' g f:Hp}{i j:Pos}{o o':Ob}{S:Pos->Prop}{P:Program}
def dF{α:Type}(b:Nat)(P:Pos->Prop)(E:El α)(el:TypeId)(w:Nat)(h:Hp)(v:V)(l:List α):Prop:=
 ∃a:List (List V),All2 (E P h) l a/\(∀c∈a,c.length=w)/\Ow b h el w v l.length a.flatten
end
end Go.Vm
namespace Go.Vm.dF
section
variable{h h' g f:Hp}{i j:Pos}{o o':Ob}{S:Pos->Prop}{P:Program}
variable{α:Type}{b:Nat}{P P':Pos->Prop}{E:El α}{el:TypeId}{w:Nat}{v:V}{l:List α}
def nil(b:Nat)(P:Pos->Prop)(E:El α)(el:TypeId)(w:Nat)(h:Hp):dF b P E el w h .aP []:=⟨[],.nil,λ_ q=>(by cases q),Ow.nil _ _ _ _⟩
def ch(r:dF b P E el w h v l)(k:E.Stable)(c:Ch S h h')(q:∀j:Pos,bI v=some j->¬S j)(n:∀j:Pos,j.nat<h.next.nat->P j->P' j/\¬S j):dF b P' E el w h' v l:=by
 obtain⟨d,a,t,s⟩:=r;exact⟨d,a.mono λ_ _ e=>k e c n,t,s.ch c q⟩
def nw(r:dF b P E el w h v l)(a:E.Stable)(c:Nw h h'):dF b P E el w h' v l:=r.ch a c (λ_ _ q=>q) λ_ _ q=>⟨q,λq=>q⟩
def mono(r:dF b P E el w h v l)(c:E.Stable)(d:∀j:Pos,j.nat<h.next.nat->P j->P' j):dF b P' E el w h v l:=r.ch c (Nw.refl h) (λ_ _ q=>q) λj a b=>⟨d j a b,λq=>q⟩
def rows(r:dF b P E el w h v l)(t:E.Stable)(u:∀j:Pos,j.nat<h.next.nat->P j->P' j)(y:∀j:Pos,b<=j.nat->j.nat<h.next.nat->P' j):Rws P' E w h v l:=by
 obtain⟨d,a,z,s⟩:=r;refine⟨d,a.mono λ_ _ e=>t e (Nw.refl h) λj hj B=>⟨u j hj B,λq=>q⟩,z,s.sl,?_,λj hj=>y j (s.eY hj).1 (s.eY hj).2⟩;intro i q n c e;rcases s.is with⟨_,k⟩|⟨_,k,_⟩
 ·rw[k]at e;cases e
 ·rw[k]at e;cases e;rfl
def len(r:dF b P E el w h v l)(g:Hp):aZ 2 v g=D (Y U (l.length:Int)) g:=by
 obtain⟨c,a,d,s⟩:=r;exact s.sl.length
def cell(r:dF b P E el w h v l):v.cells= [v]/\ig v=true:=by
 obtain⟨c,a,d,s⟩:=r;exact s.cell
end
end Go.Vm.dF
namespace Go.Vm
section
variable{h h' g f:Hp}{i j:Pos}{o o':Ob}{S:Pos->Prop}{P:Program}
def Ow.base{b b':Nat}{el:TypeId}{sz n:Nat}{v:V}{cs:List V}(s:Ow b h el sz v n cs)(hb:∀j,bI v=some j->b'<=j.nat):Ow b' h el sz v n cs:=⟨s.len,by
 rcases s.is with h0|⟨i,rfl,_,hi,f1,a⟩
 ·exact .inl h0
 ·exact .inr ⟨i,rfl,hb i rfl,hi,f1,a⟩⟩
def dF.app1{α:Type}{b bt:Nat}{P P':Pos->Prop}{E:El α}{el:TypeId}{w:Nat}{v:V}{l:List α}{x:α}{cs:List V}(r:dF b P E el w h v l)(y:E.Stable)(hb:b<=h.next.nat)(z:cs.length=w)
  (B:∀j:Pos,j.nat<h.next.nat->P j->P' j) (J:E P' h x cs) (C:∀j:Pos,j.nat<h.next.nat->P' j->bI v≠some j) (G:(l.length+1)*bt<=140737488355328):
  ∃t h',bZ el w bt v (.slice h.next 0 1 (.kn 1)) (h.new (O (N el true) cs))=D t h'/\dF b P' E el w h' t (l++ [x])/\Ch (λj=>bI v=some j) h h'/\h'.next.nat=h.next.nat+2/\t=.slice h.next.succ 0 (l.length+1) (.un w):=by
 obtain⟨u,a,I,s⟩:=r;obtain⟨t,h',e,e2,o,c,n⟩:=aA1 (bt:=bt) (s.base (b':=0) λ_ _=>o! _) z G;refine⟨t,h',e,⟨u++ [cs],?_,?_,?_⟩,c,n,e2⟩
 ·exact(a.mono λ_ _ q=>y q c λj hj k=>⟨B j hj k,λq=>C j hj (B j hj k) q⟩).append (.cons (y J c λj hj k=>⟨k,C j hj k⟩) .nil)
 ·intro d hd;rcases q!.1 hd with q|q
  ·exact I d q
  ·simp at q;subst q;exact z
 ·rw[z!,h!];simp only[a!,List.flatten_nil,List.append_nil,d!,List.length_nil,i!];exact o.base λj hj=>by rw[e2]at hj;cases hj;rw[Pos.fD];omega
def dF.eY{α:Type}{b:Nat}{P:Pos->Prop}{E:El α}{el:TypeId}{w:Nat}{v:V}{l:List α}(r:dF b P E el w h v l){j:Pos}(hj:bI v=some j):b<=j.nat/\j.nat<h.next.nat:=by
 obtain⟨c,a,d,s⟩:=r;exact s.eY hj
def Fa(fr:F):List Nat->List V->Prop
 | [],_=>True
 |k::ks,vs=>(match vs with| []=>False|x::vs=>fr.get (e! k)=some x/\Fa fr ks vs)
def Fa.set{fr:F}{p:Nat}{x:Option V}:∀{ks:List Nat} {vs:List V},Fa fr ks vs->ks.contains p=false->Fa (T.set x (e! p) fr) ks vs
 | [],_,_,_=>trivial
 |k::ks,[],a,_=>a.elim
 |k::ks,y::vs,a,n=>by
  simp only[List.contains_cons,y!]at n;refine⟨?_,Fa.set a.2 n.2⟩;rw[sS,if_neg]
  ·exact a.1
  ·intro e;rw[e]at n;simp at n
def Rd{σ:Type}(ks:List Nat)(L:σ->List V)(pi pn k n:Nat)(I:σ->Hp->Prop)(A B:F->Hp->Prop)(id:Nat):Out->Prop
 | .nor fr h=>fr.get (e! pi)=some (Y U (k:Int))/\fr.get (e! pn)=some (Y U (n:Int))/\∃s,Fa fr ks (L s)/\I s h
 | .ret fr h=>B fr h
 | .ex m fr h=>m=id/\A fr h
 | .bad=>False
def dP{σ:Type}{id pi pn pc n:Nat}{t Bd u:F->Hp->Out}(ks:List Nat)(L:σ->List V)(I:Nat->σ->Hp->Prop){A B:F->Hp->Prop}{fr:F}{h:Hp}{s:σ}
  (h5:∀fr h,fr.get (e! pi)=fr.get (e! pi)->∀k:Nat,fr.get (e! pi)=some (Y U (k:Int))->fr.get (e! pn)=some (Y U (n:Int))->t fr h=.nor (T.set (some (K (decide ((k:Int)<(n:Int))))) (e! pc) fr) h)
  (h8:∀fr h,∀k:Nat,k<n->fr.get (e! pi)=some (Y U (k:Int))->u fr h=.nor (T.set (some (Y U ((k:Int)+1))) (e! pi) fr) h)
  (hd:(ks.contains pi||ks.contains pc||l! pi pn||l! pc pi||l! pc pn)=false) (hn:n<lf)
  (i0:fr.get (e! pi)=some (Y U 0)) (n0:fr.get (e! pn)=some (Y U (n:Int))) (a0:Fa fr ks (L s)) (J:I 0 s h)
  (step:∀k s fr h,k<n->fr.get (e! pi)=some (Y U (k:Int))->fr.get (e! pn)=some (Y U (n:Int))->Fa fr ks (L s)->I k s h->Rd ks L pi pn k n (I (k+1)) A B id (Bd fr h))
  (fin:∀s fr h,Fa fr ks (L s)->I n s h->A fr h):
  Oc A B (Dz id (dG (aB t (aB (aT (.tmp pc) Out.nor (Out.ex id)) (aB Bd u))) lf fr h)):=by
 simp only[y!]at hd;obtain⟨⟨⟨⟨M,y⟩,W⟩,Z⟩,d5⟩:=hd;have e3:pi≠pn:=j! W;have e4:pc≠pi:=j! Z;have e5:pc≠pn:=j! d5;refine dX (n:=n) (λm fr h=>∃(k:Nat) (s:σ),k+m=n/\fr.get (e! pi)=some (Y U (k:Int))/\fr.get (e! pn)=some (Y U (n:Int))/\Fa fr ks (L s)/\I k s h) hn ⟨0,s,by omega,i0,n0,a0,J⟩ ?_;rintro m fr h ⟨k,s,hk,C,fn,z,G⟩;rw[YU,h5 fr h rfl k C fn,Oz,YU,alH,sS,if_pos rfl,alA];by_cases c:k<n
 ·rw[aql (by omega),Oz,YU];have st:=step k s (T.set (some (K (decide ((k:Int)<(n:Int))))) (e! pc) fr) h c (by rw[sS,if_neg (Ne.symm e4)];exact C) (by rw[sS,if_neg (Ne.symm e5)];exact fn) (z.set y) G;cases hb:Bd (T.set (some (K (decide ((k:Int)<(n:Int))))) (e! pc) fr) h with
  |nor a d=>
   rw[hb]at st;obtain⟨gi,gn,s1,ga,e⟩:=st;rw[Oz,h8 a d k c gi];refine⟨m - 1,by omega,k+1,s1,by omega,?_,?_,ga.set M,e⟩
   ·rw[sS,if_pos rfl];rfl
   ·rw[sS,if_neg (Ne.symm e3)];exact gn
  |ret a d=>rw[hb]at st;exact st
  |ex q a d=>rw[hb]at st;exact st
  |bad=>rw[hb]at st;exact st.elim
 ·rw[aqm (by omega)];have r:k=n:=by omega
  subst r;exact⟨rfl,fin s _ h (z.set y) G⟩
end
section
variable{h:Hp}
def sD:aH .eql .slice .aP .aP h=D (K true) h:=(rfl)
def su(el:TypeId)(h:Hp):ap9 el h=D (.slice h.next 0 0 (.kn 0)) (h.new (O (N el true) [])):=(rfl)
def UM{el:TypeId}{sz bt b o n:Nat}{i:Pos}{cp:Cap}{x:V}(s:Sl b h sz x 0 []):bZ el sz bt (.slice i o n cp) x h=D (.slice i o n cp) h:=by
 unfold bZ;rw[s.src]
def aAC{l:List V}(h:l.length=1):∃y,l= [y]:=by
 match l,h with
 | [y],_=>exact⟨y,rfl⟩
def take_snoc{α:Type}{l:List α}{k:Nat}{a:α}(e:l[k]?=some a):l.take (k+1)=l.take k++ [a]:=by rw[List.take_add_one,e];rfl
def fE:Option Nat->Int
 |some k=>(k:Int)
 |none=> -1
def lX{α:Type}{p:α->Bool}{l:List α}{k:Nat}{x:α}(d:l[k]?=some x)(a:(l.take k).findIdx? p=none)(n:p x=true):l.findIdx? p=some k:=by
 have e:=(b!.1 d).1;have c:=(b!.1 d).2;rw[k!];refine⟨e,by rw[c];exact n,λj hj=>?_⟩;have:=r!.1 a (l[j]'(by omega)) (by
  rw[List.mem_take_iff_getElem];exact⟨j,by omega,rfl⟩)
 simpa using this
def Aj{α:Type}(p:α->Bool)(l:List α):decide (fE (l.findIdx? p)>=0)=l.any p:=by
 cases a:l.findIdx? p with
 |none=>
  rw[r!]at a;rw[F!];simp[fE,C!];exact a
 |some k=>
  obtain⟨c,d,_⟩:=k!.1 a;rw[F!];simp only[fE,decide_eq_true_eq,C!];exact⟨λ_=>⟨l[k],B! c,d⟩,λ_=>decide_eq_true (Int.natCast_nonneg k)⟩
def Rws.zero{α:Type}{b w:Nat}{c:α->List V}{el:TypeId}(hb:b<=h.next.nat):Rws (λj=>b<=j.nat) (flat c) w (h.new (O (N el true) [])) (.slice h.next 0 0 (.kn 0)) ([]:List α):=
 ⟨[],.nil,λ_ q=>(by cases q),⟨by simp,.inr ⟨h.next,0,_,N el true,[],rfl,by rw[bJ];omega,by rw[dY];rfl,λk a=>by simp at a⟩⟩,λi o n c e=>by cases e;exact p! _,λj hj=>by cases hj;exact hb⟩
end
def aAs(n:Nat)(x:V)(h:Hp):eP (.func n) [] [x] h=D (.func (.func n) .nil (.cons x .nil)) h:=(rfl)
def aAr(n:Nat)(x y:V)(h:Hp):eP (.func n) [] [x,y] h=D (.func (.func n) .nil (.cons x (.cons y .nil))) h:=(rfl)
def aAq(n:Nat)(x y z:V)(h:Hp):eP (.func n) [] [x,y,z] h=D (.func (.func n) .nil (.cons x (.cons y (.cons z .nil)))) h:=(rfl)
def aAt(n:Nat)(h:Hp):eP (.func n) [] [] h=D (.func (.func n) .nil .nil) h:=(rfl)
def vqK:type_of% @aAl/\type_of% @ah9/\type_of% @alp/\type_of% @avv/\type_of% @aAs/\type_of% @aAr/\type_of% @aAq/\type_of% @aAt/\type_of% @su:=
 ⟨@aAl,@ah9,@alp,@avv,@aAs,@aAr,@aAq,@aAt,@su⟩
section
variable{h g:Hp}{p:Pos}
def V.noF:V->Bool
 | .func _ _ _=>false
 | .iface _ v=>v.noF
 | .agg v=>v.noF
 | .tuple v=>v.noF
 | .cons a b=>a.noF&&b.noF
 |_=>true
def amV:∀s:List Nat,jC s s=true
 | []=>rfl
 |a::s=>by simp only[jC,g!];exact amV s
def alD:∀{v:V},v.noF=true->eqV v v=true:=by
 intro v;induction v with
 |bool b=>intro _;cases b<;>rfl
 |int k n=>intro _;exact aLg k n
 |str s=>intro _;exact amV s
 |ptr i o=>intro _;show(match i.eq i with|true=>l! o o|false=>false)=true;rw[Pos.eq_self,g!]
 |slice i o n c=>intro _;cases c<;>simp only[eqV,Pos.eq_self,g!]
 |map i=>intro _;exact Pos.eq_self i
 |func fn a b=>intro d;cases d
 |iface t v q=>intro d;show(match l! t t with|true=>eqV v v|false=>false)=true;rw[g!];exact q d
 |agg v q=>intro d;exact q d
 |tuple v q=>intro d;exact q d
 |cons a b r u=>
  intro d;have e:(a.noF&&b.noF)=true:=d;rw[Bool.and_eq_true]at e;show(match eqV a a with|true=>eqV b b|false=>false)=true;rw[r e.1];exact u e.2
 |_=>intro _;rfl
def Sl.noF{b sz n:Nat}{v:V}{cs:List V}(s:Sl b h sz v n cs):v.noF=true:=by
 rcases s.is with⟨_,rfl|rfl⟩|⟨i,o,c,wr,all,rfl,_⟩<;>rfl
def Rws.noF{α:Type}{P:Pos->Prop}{E:El α}{w:Nat}{v:V}{l:List α}(r:Rws P E w h v l):v.noF=true:=by
 obtain⟨c,a,d,s,k,p⟩:=r;exact s.noF
def qw{m:Hp->R V}{v:V}{k:Out}{g g':Hp}(a:v.noF=true)(e:m g=D v g'):chk m v k 1 [g]=k:=MS e (alD a)
def afU{m:Hp->R V}{v:V}{k:Out}{g g' f f':Hp}(a:v.noF=true)(e:m g=D v g')(e2:m f=D v f'):chk m v k 2 [g,f]=k:=aAW e e2 (alD a)
def aDL{m:Hp->R V}{v:V}{k:Out}{g g' f f' d c:Hp}(a:v.noF=true)(e:m g=D v g')(e2:m f=D v f')(n:m d=D v c):chk m v k 3 [g,f,d]=k:=by
 show(match m g with|D q _=>(match eqV v q with|true=>chk m v k 2 [f,d]|false=>.bad)| .bad=>.bad)=_;rw[e];simp only[alD a];exact afU a e2 n
def ay6{w:Wr}{cs:List V}{q:Nat}{n:Int}(k:Kn h p (O w cs))(a:cs[q]?=some (Y U n)):abp U [X p q] h=D (Y U n) h:=by
 show dV h p (λ_ cs=>match MH q cs with|some v=>(match v with|Y c n=>(match WB U c with|true=>R.ok (Y U n) h|false=>.bad)|_=>.bad)|none=>.bad)=_;rw[dW (wr:=w) (all:=cs) (by rw[k.1];rfl),nY,a];rfl
def awG{t:TypeId}{f:Bool}{cs:List V}{q:Nat}{n:Int}(k:Kn h p (O (N t f) cs))(c:q<cs.length):OM [X p q,Y U n] h=D V.undef (h.put p (some (O (N t f) (cs.set q (Y U n))))):=by
 show dV h p (λwr cs=>(match wr with
   |N t f=>(match jo q [Y U n] cs with|some a=>R.ok V.undef (h.put p (some (O (N t f) a)))|none=>.bad)
   | .ro=>.bad))=_
 rw[dW (wr:=N t f) (all:=cs) (by rw[k.1];rfl)];simp only[Ut c]
def aDW{t:TypeId}{f:Bool}{cs:List V}{q:Nat}{n m:Int}(k:Kn h p (O (N t f) cs))(d:cs[q]?=some (Y U n))(r: -9223372036854775808<=n+m)(u:n+m<9223372036854775808):
  Zk U [X p q,Y U m] h=D (Y U (n+m)) (h.put p (some (O (N t f) (cs.set q (Y U (n+m)))))):=by
 have c:q<cs.length:=(b!.1 d).1;have e:iM U (xq U (n+m)) h=D (Y U (n+m)) h:=by rw[Ac,wrap_in r u,gZ]
 show dV h p (λwr cs=>(match MH q cs with
   |some v=>(match v with
    |Y y n=>(match WB U y,WB U U with
     |true,true=>(match wr with
      |N t f=>(match iM U (xq U (n+m)) h with
       |D s _=>(match jo q [s] cs with|some a=>R.ok s (h.put p (some (O (N t f) a)))|none=>.bad)
       | .bad=>.bad)
      | .ro=>.bad)
     |_,_=>.bad)
    |_=>.bad)
   |none=>.bad))=_
 rw[dW (wr:=N t f) (all:=cs) (by rw[k.1];rfl),nY,d];show(match iM U (xq U (n+m)) h with
       |D s _=>(match jo q [s] cs with|some a=>R.ok s (h.put p (some (O (N t f) a)))|none=>.bad)
       | .bad=>.bad)=_
 rw[e];simp only[Ut c]
end
section
variable{h h' g:Hp}{α:Type}{b bt:Nat}{E:El α}{el:TypeId}{w:Nat}{v:V}{l:List α}{x:α}{cs:List V}
abbrev gK(b:Nat)(E:El α)(el:TypeId)(w:Nat)(h:Hp)(v:V)(l:List α):Prop:=dF b (λj=>b<=j.nat/\bI v≠some j) E el w h v l
def gK.app{P0:Pos->Prop}(r:gK b E el w h v l)(k:E.Stable)(hb:b<=h.next.nat)(s:cs.length=w)(y:E P0 h x cs)(t:∀j:Pos,j.nat<h.next.nat->P0 j->b<=j.nat/\bI v≠some j)(u:(l.length+1)*bt<=140737488355328):
  ∃d h',bZ el w bt v (.slice h.next 0 1 (.kn 1)) (h.new (O (N el true) cs))=D d h'/\gK b E el w h' d (l++ [x])/\Ch (λj=>bI v=some j) h h'/\h'.next.nat=h.next.nat+2/\d=.slice h.next.succ 0 (l.length+1) (.un w):=by
 obtain⟨d,h',e,o,c,n,rfl⟩:=dF.app1 (P':=λj=>(b<=j.nat/\bI v≠some j)/\j.nat<h.next.nat) (bt:=bt) (x:=x) (cs:=cs) r k hb s (λj hj a=>⟨a,hj⟩)
  (k y (Nw.refl h) λj hj a=>⟨⟨t j hj a,hj⟩,λq=>q⟩) (λj _ a=>a.1.2) u
 refine⟨_,h',e,o.mono k λj _ a=>⟨a.1.1,λq=>?_⟩,c,n,rfl⟩;injection q with q;have:=congrArg Pos.nat q
 rw[Pos.fD]at this;have:=a.2;omega
def gK.nil(b:Nat)(E:El α)(el:TypeId)(w:Nat)(h:Hp):gK b E el w h .aP []:=dF.nil _ _ _ _ _ _
def gK.nw(r:gK b E el w h v l)(a:E.Stable)(c:Nw h h'):gK b E el w h' v l:=dF.nw r a c
def gK.rws(r:gK b E el w h v l)(a:E.Stable):Rws (λj=>b<=j.nat) E w h v l:=dF.rows r a (λ_ _ q=>q.1) λ_ q _=>q
def gK.lower{b':Nat}(r:gK b E el w h v l)(hb:b'<=b)(d:E.Stable:=by exact aJ _):gK b' E el w h v l:=by
 obtain⟨c,a,k,s⟩:=r;exact⟨c,a.mono λ_ _ e=>d e (Nw.refl h) λj _ q=>⟨⟨L! hb q.1,q.2⟩,λq=>q⟩,k,s.base λj hj=>L! hb (s.eY hj).1⟩
def Nw.own(c:Nw g h)(d:Ch (λj=>bI v=some j) h h')(a:∀j,bI v=some j->g.next.nat<=j.nat):Nw g h':=c.then d λj hj q=>by have:=a j q;omega
end
section
variable{h h':Hp}{i:Pos}{o:Ob}{α:Type}
def Kn.bump(k:Kn h i o)(n:Nat):Kn (aK n h) i o:=⟨k.1,by rw[sZ];have:=k.2;omega⟩
def Nw.bump(n:Nat)(h:Hp):Nw h (aK n h):=Ch.aK _ n h
def dF.aIL{b bt:Nat}{c:α->List V}{el:TypeId}{w:Nat}{v:V}{l:List α}{x:α}(r:dF b (λ_=>False) (flat c) el w h v l)(hb:b<=h.next.nat)(k:(c x).length=w)(s:(l.length+1)*bt<=140737488355328):
  ∃a h',bZ el w bt v (.slice h.next 0 1 (.kn 1)) (h.new (O (N el true) (c x)))=D a h'/\dF b (λ_=>False) (flat c) el w h' a (l++ [x])/\Ch (λj=>bI v=some j) h h'/\h'.next.nat=h.next.nat+2/\(∀j,bI a=some j->h.next.nat<=j.nat):=by
 obtain⟨a,h',e,o,d,n,rfl⟩:=dF.app1 (P':=λ_=>False) (bt:=bt) (x:=x) r (aJ _) hb k (λ_ _ q=>q) rfl (λ_ _ q=>q.elim) s;exact⟨_,h',e,o,d,n,λj q=>by injection q with q;rw[<-q,Pos.fD];omega⟩
def dF.aOR{b:Nat}{c:α->List V}{el:TypeId}{w:Nat}{v:V}{l:List α}(r:dF b (λ_=>False) (flat c) el w h v l):Rws (λ_=>True) (flat c) w h v l:=r.rows (aJ _) (λ_ _ q=>q.elim) λ_ _ _=>trivial
end
section
variable{h:Hp}{i:Pos}{α:Type}
def All2.flat{P:Pos->Prop}{c:α->List V}{l:List α}{d:List (List V)}(a:All2 (Go.Vm.flat c P h) l d):d=l.map c:=by
 induction a with
 |nil=>rfl
 |cons r _ e=>rw[e,List.map_cons];rw[show _=c _ from r]
def dF.open{b:Nat}{P:Pos->Prop}{c:α->List V}{el:TypeId}{w:Nat}{v:V}{l:List α}(r:dF b P (flat c) el w h v l)(hl:l≠ []):
  ∃i f,v=.slice i 0 l.length (.un w)/\b<=i.nat/\Kn h i (O (N el f) (l.map c).flatten):=by
 obtain⟨d,a,n,s⟩:=r;rcases s.is with⟨h0,_⟩|⟨i,e,hb,hi,f,k⟩
 ·exact absurd (u!.1 h0) hl
 ·exact⟨i,f,e,hb,by rw[<-a.flat];exact⟨k,hi⟩⟩
def dF.mk{b:Nat}{P:Pos->Prop}{c:α->List V}{el:TypeId}{w:Nat}{l:List α}{f:Bool}(n:∀x,(c x).length=w)(hb:b<=i.nat)(k:Kn h i (O (N el f) (l.map c).flatten)):dF b P (flat c) el w h (.slice i 0 l.length (.un w)) l:=by
 have e:∀d∈l.map c,d.length=w:=λd hd=>by obtain⟨x,_,rfl⟩:=J!.1 hd;exact n x
 refine⟨l.map c,?_,e,by rw[ji e,List.length_map],.inr ⟨i,rfl,hb,k.2,f,k.1⟩⟩;clear k e;induction l with
 |nil=>exact .nil
 |cons a l q=>exact .cons rfl q
def qo{c:α->V}(l:List α):(l.map λx=> [c x]).flatten=l.map c:=by
 induction l with
 |nil=>rfl
 |cons a l d=>simp[d]
def ltI(a b:Int):Bool:=decide (a<b)
def abm(lt:α->α->Bool):Nat->List α->List α
 |0,l=>l
 |j+1,l=>(match l[j+1]?,l[j]? with
  |some x,some y=>(match lt x y with|true=>abm lt j ((l.set (j+1) y).set j x)|false=>l)
  |_,_=>l)
def gu(lt:α->α->Bool):Nat->List α->List α
 |0,l=>l
 |i+1,l=>abm lt i (gu lt i l)
def awD(lt:α->α->Bool):∀(j:Nat) (l:List α),(abm lt j l).length=l.length
 |0,l=>rfl
 |j+1,l=>by
  unfold abm;split
  ·split
   ·rw[awD lt j];simp
   ·rfl
  ·rfl
def xJ(lt:α->α->Bool):∀(i:Nat) (l:List α),(gu lt i l).length=l.length
 |0,l=>rfl
 |i+1,l=>by show(abm lt i (gu lt i l)).length=_;rw[awD,xJ lt i]
def BO(lt:α->α->Bool){l:List α}(h:l.length<=1):gu lt l.length l=l:=by
 match l,h with
 | [],_=>rfl
 | [a],_=>rfl
end
def Oc.out{A B:F->Hp->Prop}{o:Out}{Q:Out->Prop}(a:Oc A B o)(c:∀fr h,A fr h->Q (.nor fr h))(d:∀fr h,B fr h->Q (.ret fr h)):Q o:=by
 cases o with
 |nor fr h=>exact c fr h a
 |ret fr h=>exact d fr h a
 |ex i fr h=>exact a.elim
 |bad=>exact a.elim
def avx{c:EqC}{h:Hp}(a b:List Nat):aH .lss c (H a) (H b) h=D (K (jg a b)) h:=by
 show fQ (jg a b) h=_;rw[gm]
def aAV(a b:F->Hp->Out)(fr:F)(h:Hp):aT (.const (.bool false)) a b fr h=b fr h:=(rfl)
def aAU(a b:F->Hp->Out)(fr:F)(h:Hp):aT (.const (.bool true)) a b fr h=a fr h:=(rfl)
def aLr{Q:Out->Prop}{s:List Nat}{n:Nat}{k:V->Hp->Out}{h:Hp}{r:IntKind}(hl:Nat.blt n s.length=true)(d:(s.all λa=>M! a 8)=true)(hb:((s.drop 1).all λa=>M! 1 a)=true)(q:∀a:Nat,a<=8->(0<n->1<=a)->Q (k (Y .u8 (a:Int)) h)):Q (aA (jY (H s) (Y r (n:Int)) h) k):=by
 have c:n<s.length:=by simpa[Nat.blt_eq]using hl
 rw[Tf (t! c),aqD];refine q _ (w! (D!.1 d _ (B! c))) λh0=>w! (D!.1 hb _ ?_);have e:(s.drop 1)[n - 1]?=some s[n]:=by rw[A!,show 1+(n - 1)=n by omega];exact t! c
 exact x! e
section
variable{h h':Hp}{i:Pos}{α:Type}
def alC{w f:Nat}{y:V}:∀{cs:List (List V)} {k:Nat} {c:List V},(∀c∈cs,c.length=w)->cs[k]?=some c->f<w->cs.flatten.set (k*w+f) y=(cs.set k (c.set f y)).flatten
 | [],k,c,_,e,_=>by simp at e
 |d::cs,0,c,a,e,n=>by
  simp at e;subst e;have hd:=a d (by simp);rw[K!,i!,a!,List.set_append_left _ _ (by omega)];rfl
 |d::cs,k+1,c,a,e,n=>by
  have hd:=a d (by simp);rw[a!,List.set_append_right _ _ (by rw[hd,c!];omega),hd,show(k+1)*w+f - w=k*w+f by rw[c!];omega];rw[alC (λc q=>a c (by simp[q])) (by simpa using e) n];rfl
def aiC(v:V)(n:Nat):Prop:=(v=.aP/\n=0)\/∃i,v=.slice i 0 n (.kn n)
def aqG{P P':Pos->Prop}{c:α->List V}{el:TypeId}{w bt:Nat}{v x:V}{l m:List α}(r:Rws P (flat c) w h v l)(J:aiC v l.length)(t:Rws P' (flat c) w h x m)(M:m≠ [])(z:(l.length+m.length)*bt<=140737488355328):
  ∃C h',bZ el w bt v x h=D C h'/\dF h.next.nat (λ_=>False) (flat c) el w h' C (l++m)/\Nw h h':=by
 obtain⟨k,a,Z,s,-,-⟩:=r;obtain⟨u,b,hd,t,-,-⟩:=t;have W:0<m.length:=List.length_pos_iff.2 M;have ow:dF h.next.nat (λ_=>False) (flat c) el w (h.new (O (N el false) (k.flatten++u.flatten))) (.slice h.next 0 (l.length+m.length) (.un w)) (l++m):=by
  refine⟨k++u,a.append b,λd y=>(q!.1 y).elim (Z d) (hd d),?_⟩;rw[z!,h!];exact⟨by rw[h!,s.len,t.len,Nat.add_mul],.inr ⟨h.next,rfl,p! _,by rw[bJ];omega,false,dY _ _⟩⟩
 refine⟨.slice h.next 0 (l.length+m.length) (.un w),_,?_,ow,Nw.new _ _⟩;unfold bZ;rw[t.src];rcases J with⟨rfl,h0⟩|⟨i,rfl⟩
 ·have I:k.flatten= []:=u!.1 (by rw[s.len,h0];simp);rw[I,E!,h0,i!];cases n:m.length with
  |zero=>omega
  |succ q=>simp only[];rw[lM (by rw[h0,i!,n]at z;exact z)]
 ·rcases s.is with⟨h0,e|e⟩|⟨i',o,cp,wr,all,e,hi,L,G⟩
  ·cases e
  ·cases e
  ·cases e;have B:gy (l.length*w) (fB 0 all)=some k.flatten:=uO G s.len;cases n:m.length with
   |zero=>omega
   |succ q=>
    simp only[];rw[dW L];simp only[dM];rw[show M! (l.length+(q+1)) l.length=false by rw[<-Bool.not_eq_true,Nat.ble_eq];omega];simp only[B];rw[lM (by rw[<-n];exact z)]
end
def ap0(h:Hp)(i:Pos)(o o':Option Ob):(h.put i o).put i o'=h.put i o':=by
 show(⟨_,_⟩:Hp)=⟨_,_⟩;rw[show(h.put i o).t=h.t.set o i from rfl,T.set_set];rfl
def acM{h:Hp}(a b:Bool):aH .neq .bool (K a) (K b) h=D (K (decide ¬a=b)) h:=by cases a<;>cases b<;>rfl
def am7:∀{vs l:List V},vs.length<=l.length->Td vs l=some (vs++l.drop vs.length)
 | [],l,_=>rfl
 |v::vs,[],e=>by simp at e
 |v::vs,a::l,e=>by
  show n! (motive:=λ_=>Option (List V)) (Td vs l) none (λr=>some (v::r))=_;rw[am7 (vs:=vs) (l:=l) (by simpa using e)];rfl
def WG:∀{n:Nat} {vs l:List V},n+vs.length<=l.length->jo n vs l=some (l.take n++vs++l.drop (n+vs.length))
 |0,vs,l,e=>by
  rw[List.take_zero,E!,i!];exact am7 (by omega)
 |n+1,vs,[],e=>by simp at e
 |n+1,vs,a::l,e=>by
  show n! (motive:=λ_=>Option (List V)) (jo n vs l) none (λr=>some (a::r))=_;rw[WG (n:=n) (vs:=vs) (l:=l) (by simp at e;omega),show n+1+vs.length=(n+vs.length)+1 by omega];simp
def vvB:type_of% vvA/\type_of% vqK/\type_of% @aAV/\type_of% @aAU:=⟨vvA,vqK,@aAV,@aAU⟩
def qK0{p:Prop}(h:p:=by simp only[vvB,seval]):p:=h
def qK1{p:Prop}(h:p:=by simp only[vvB,seval]<;>rfl):p:=h
def qK2{p q:Prop}(f:q)(h:q->p:=by intro f;simp only[vvB,seval,f]):p:=h f
def qK3{p q:Prop}(f:q)(h:q->p:=by intro f;simp only[vvB,seval,f]<;>rfl):p:=h f
def qT0{p:Prop}(h:p:=by simp only[bQ,vvB,seval,bT]<;>rfl):p:=h
def qT1{p q:Prop}(f:q)(h:q->p:=by intro f;simp only[bQ,vvB,seval,f,bT]<;>rfl):p:=h f
def mkT{t:TypeId}{h g:Hp}{c:List V}(n:Nat)(Z:List V)(e:g=h.new (O (N t true) c))(a:c.length=n:=by rfl)(b:Z.length=n:=by rfl):aS n (X h.next 0) (.agg (V.ofList c)) (h.new (O (N t true) Z))=D V.undef g:=by rw[e];have:=BK (t:=t) (f:=true) (z:=Z) (h:=h) (n:=n) (V.iI c) (by rw[V.cZ];exact a) b;rw[V.cZ]at this;exact this
def mkW(h:Hp)(o:Ob):∃h',h'=h.new o/\Nw h h'/\Kn h' h.next o:=⟨_,rfl,Nw.new _ _,Kn.new _ _⟩
end Go.Vm
namespace Go.Im
structure Bx where
 id:Int
 name:List Nat
 par:Int
 valid:Int
 next:Int
 mod:Int
structure Ml where
 id:Int
 thread:Int
 text:List Nat
 at_:Int
 keys:List (List Nat)
 mem:List (Int×Int)
 mod:Int
 born:Int
structure En where
 mod:Int
 kind:Int
 id:Int
 how:Int
structure Acc where
 clock:Int
 boxes:List Bx
 mails:List Ml
 ents:List En
 floor:Int
 lastBox:Int
 lastId:Int
 octets:Int
abbrev iV(n:Int):V:=Y U n
def gY(b:Bx):List V:= [iV b.id,H b.name,iV b.par,iV b.valid,iV b.next,iV b.mod]
def iL(e:En):List V:= [iV e.mod,iV e.kind,iV e.id,iV e.how]
def gW(m:Int×Int):List V:= [iV m.1,iV m.2]
def dN(s:List Nat):List V:= [H s]
def iG(n:Int):List V:= [iV n]
def dS(m:Ml)(vk vm:V):List V:= [iV m.id,iV m.thread,H m.text,iV m.at_,vk,vm,iV m.mod,iV m.born]
def jZ:El Ml:=λP h m cs=>∃vk vm,cs=dS m vk vm/\Rws P (flat dN) 1 h vk m.keys/\Rws P (flat gW) 2 h vm m.mem
def dI:jZ.Stable:=λ⟨vk,vm,e,a,b⟩ c d=>⟨vk,vm,e,a.ch (aJ _) c d,b.ch (aJ _) c d⟩
def stC(A:Acc)(ib:Pos)(cb:Cap)(vm:V)(pl:Pos):List V:=
 [H [117],H [112],iV 1000,iV 100,iV 1048576,iV 1073741824,iV 1073741824,iV 10000,iV 200,iV A.clock,.slice ib 0 A.boxes.length cb,vm,X pl 0,iV A.lastBox,iV A.lastId,iV A.octets]
def aJv(tM:TypeId)(I:Pos->Prop)(h:Hp)(v:V)(l:List Ml):Prop:=
 ∃a,All2 (jZ I h) l a/\(∀c∈a,c.length=8)/\((l= []/\v=.aP)\/∃i f rest,v=.slice i 0 l.length (.un 8)/\Kn h i (O (N tM f) (a.flatten++rest)))
structure AccR (tS tL tB tM tE:TypeId) (h:Hp) (F:Pos->Prop) (ps:Pos) (A:Acc) (pl ib:Pos) (cb:Cap) (fb:Bool) (vm vl:V) (I:Pos->Prop):Prop where
 st:Kn h ps (O (N tS true) (stC A ib cb vm pl))
 lg:Kn h pl (O (N tL true) [iV 10000,vl,iV A.floor])
 bx:Kn h ib (O (N tB fb) (A.boxes.map gY).flatten)
 cap:zn 6 (.slice ib 0 A.boxes.length cb)
 ml:aJv tM I h vm A.mails
 en:dF 0 (λ_=>False) (flat iL) tE 4 h vl A.ents
 ne:ps≠pl/\ps≠ib/\pl≠ib
 nm:∀j,bI vm=some j->j≠ps/\j≠pl/\j≠ib/\bI vl≠some j
 nl:∀j,bI vl=some j->j≠ps/\j≠pl/\j≠ib
 inn:∀j,I j->F j/\j≠ps/\j≠pl/\j≠ib/\bI vm≠some j/\bI vl≠some j
 foot:F ps/\F pl/\F ib/\(∀j,bI vm=some j->F j)/\∀j,bI vl=some j->F j
 lt:∀j,F j->j.nat<h.next.nat
 enil:A.ents= []->vl=.aP
structure Acc.Small (A:Acc):Prop where
 clock:0<=A.clock/\A.clock<1000000
 boxes:0<A.boxes.length/\A.boxes.length<=1000
 mails:A.mails.length<=1000
 ents:A.ents.length<=9000
 each:∀m∈A.mails,m.keys.length<=1000/\m.mem.length<=1000
end Go.Im
namespace Go.Proofs.Im
def wds:List (List Nat)->Wds
 | []=>.nil
 |t::l=>.cons 1 t .nil (wds l)
def auw:List Wo->Wds
 | []=>.nil
 | .a t::l=>.cons 1 t .nil (auw l)
 | .l s::l=>.cons 3 [] (wds s) (auw l)
def afP(l:List (List Wo)):List Ln.Got:=l.map λw=>⟨1,auw w⟩
section
variable{P:Pos->Prop}{h:Hp}{p:Pos}
def aEx:∀l:List (List Nat),WAt P h (wds l) (wC l)
 | []=>rfl
 |t::l=>⟨.aP,[],wC l,rfl,Ow.nil _ _ _ _,λj e=>(by cases e),rfl,aEx l⟩
def apR:∀l:List (List Nat),(wds l).len=l.length
 | []=>rfl
 |_::l=>congrArg (· +1) (apR l)
def aEA:∀l:List (List Nat),(wC l).length=l.length*3
 | []=>rfl
 |_::l=>by rw[d!,c!,<-aEA l];rfl
def aaA:∀l:List Wo,(auw l).len=l.length
 | []=>rfl
 | .a _::l=>congrArg (· +1) (aaA l)
 | .l _::l=>congrArg (· +1) (aaA l)
def avX:∀(l:List Wo) (p:Pos),(lC p l).length=l.length*3
 | [],_=>rfl
 | .a _::l,p=>by rw[d!,c!,<-avX l p];rfl
 | .l _::l,p=>by rw[d!,c!,<-avX l p.succ];rfl
def aE7:∀(l:List (List Wo)) (p:Pos),(gC p l).length=l.length*2
 | [],_=>rfl
 |x::l,p=>by rw[d!,c!,<-aE7 l (adv p x).succ];rfl
def Sat(P:Pos->Prop)(h:Hp):Pos->List Ob->Prop
 |_,[]=>True
 |p,o::l=>(Kn h p o/\P p)/\Sat P h p.succ l
def Sat.mk:∀{l:List Ob} {h:Hp},(∀j:Pos,h.next.nat<=j.nat->j.nat<h.next.nat+l.length->P j)->Sat P (mkF h l) h.next l/\Nw h (mkF h l)
 | [],h,_=>⟨trivial,Nw.refl h⟩
 |o::l,h,d=>by
  have hn:(h.new o).next.nat=h.next.nat+1:=Pos.fD _;obtain⟨s,c⟩:=Sat.mk (l:=l) (h:=h.new o) λj a b=>d j (by omega) (by simp only[d!];omega);exact⟨⟨⟨(Kn.new h o).nw c,d _ (p! _) (by simp)⟩,s⟩,(Nw.new h o).trans c⟩
def apS:∀{l:List Wo} {p:Pos} {r:List Ob},Sat P h p (lN l++r)->WAt P h (auw l) (lC p l)/\Sat P h (adv p l) r
 | [],_,_,s=>⟨rfl,s⟩
 | .a t::l,p,r,s=>by
  obtain⟨a,b⟩:=apS (l:=l) s;exact⟨⟨.aP,[],lC p l,rfl,Ow.nil _ _ _ _,λj e=>(by cases e),rfl,a⟩,b⟩
 | .l w::l,p,r,s=>by
  obtain⟨⟨k,c⟩,s2⟩:=s;obtain⟨a,b⟩:=apS (l:=l) (p:=p.succ) s2;exact⟨⟨.slice p 0 w.length (.un 3),wC w,lC p.succ l,rfl,⟨by rw[apR,aEA],.inr ⟨p,by rw[apR],o! _,k.2,false,k.1⟩⟩,λj e=>(by cases e;exact⟨c,rfl⟩),aEx w,a⟩,b⟩
def aAI:∀{l:List (List Wo)} {p:Pos} {r:List Ob},Sat P h p (tO p l++r)->GAt P h (afP l) (gC p l)/\Sat P h (afY p l) r
 | [],_,_,s=>⟨rfl,s⟩
 |x::l,p,r,s=>by
  rw[show tO p (x::l)++r=lN x++(O (N 149 false) (lC p x)::(tO (adv p x).succ l++r)) by simp[tO]]at s;obtain⟨a,⟨k,d⟩,s2⟩:=apS s;obtain⟨b,c⟩:=aAI (l:=l) s2;exact⟨⟨.slice (adv p x) 0 x.length (.un 3),gC (adv p x).succ l,rfl,⟨lC p x,⟨by rw[aaA,avX],.inr ⟨adv p x,by rw[aaA],o! _,k.2,false,k.1⟩⟩,λj e=>(by cases e;exact d),a⟩,b⟩,c⟩
def Fed(s:List Nat)(gs:List Ln.Got):Prop:=s.length<=1000/\gs.length<=1000/\∀h:Hp,Ik.aI<=h.next.nat->
 ∃v a,Ik.aqM [X h.next 0,.slice h.next.succ 0 s.length (.un 1)] ((h.new Ik.rdO).new (.bytes (bys s)))=D v a/\Nw h a/\Told (λj=>h.next.nat<=j.nat/\j.nat<a.next.nat) a v gs
def Fed.mk{s:List Nat}{l:List (List Wo)}(o:s.length<=1000)(hl:l.length<=1000)(e:Ti afd s=some l):Fed s (afP l):=by
 refine⟨o,by simpa[afP]using hl,λh hG=>?_⟩;have f:=(Kn.new h Ik.rdO).add (.bytes (bys s))
 have i:=Kn.new (h.new Ik.rdO) (.bytes (bys s));have r:h.next.succ.nat=h.next.nat+1:=Pos.fD _;have q:(h.new Ik.rdO).next.nat=h.next.nat+1:=bJ _ _;have t:((h.new Ik.rdO).new (.bytes (bys s))).next.nat=h.next.nat+2:=by rw[bJ,q]
 have hn:h.next≠h.next.succ:=λe=>by have:=congrArg Pos.nat e;omega
 generalize hh:(h.new Ik.rdO).new (.bytes (bys s))=d at*;obtain⟨st,c⟩:=Sat.mk (l:=aaV d.next l) (h:=d) (P:=λj=>h.next.nat<=j.nat/\j.nat<(mkF d (aaV d.next l)).next.nat) λj a b=>by rw[aaZ];exact⟨by omega,b⟩
 have m:Nw h d:=by rw[<-hh];exact(Nw.new _ _).trans (Nw.new _ _)
 refine⟨_,_,aQJ hG f.2 (by omega) i.2 hn f.1 i.1 e,m.trans c,?_⟩;obtain⟨g,⟨k,n⟩,-⟩:=aAI (l:=l) st;exact⟨gC d.next l,⟨by rw[aE7];simp[afP],.inr ⟨afY d.next l,by simp[afP,rcP],o! _,k.2,false,k.1⟩⟩,λj e=>by cases e;exact n,g⟩
def aS5:Fed Ik.fsA (afP Ik.flA):=Fed.mk (by decide) (by decide) Ik.lookA
end
end Go.Proofs.Im
