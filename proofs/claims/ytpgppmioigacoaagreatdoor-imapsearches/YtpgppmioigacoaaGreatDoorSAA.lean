/- Lemmas. No conditions. -/
import Derived.Orders
import Derived.Laws.CopyRow
import Derived.Laws.IdiomCopy
import Derived.ArgAppend
import Derived.Laws.Append
import Derived.Below
import Derived.IntWalk
import Derived.Laws.Strings
import Derived.LaidEql
set_option linter.all false
open Go.Op renaming equalIn→a!,stringOp→q!,intCmp→D!,intBits→H!,intArith→M!,eqGuardIn→Q!,unary→T!,equal→U!,bytesLess→i?,maxDepth→l?
open Array renaming getElem?_eq_some_iff→b!,getElem?_setIfInBounds_self_of_lt→x!,getElem?_setIfInBounds_ne→I!,getElem?_modify→P!
open Go.Value renaming cells→c!
open BitVec renaming ofInt→d!
open Nat renaming beq→e!,eq_of_beq_eq_true→h!,le_refl→j!,ne_of_beq_eq_false→o!,blt_eq→v!,blt→B!,lt_of_lt_of_le→F!,rec→J!,le_trans→K!,beq_eq→N!,add_assoc→a?,sub_self→d?,add_zero→e?
open Bool renaming eq_iff_iff→g!
open Option renaming casesOn→i!
open List renaming casesOn→k!,mem_of_getElem?→p!,getElem?_eq_some_iff→r!,getElem?_eq_getElem→t!,getElem?_take→E!,getElem?_append→R!,getElem?_drop→V!,map_cons→Z!
open Go.Result renaming andThen_ok→l!
open Go.Instr renaming sureAddr→n!,indexAt→C!,loadAt→G!,storeAt→O!,makeInterface→S!,fieldAt→X!,extract→Y!,index→b?,box→k?
open Go.Sem renaming run_bind→u!,run_pure→c?
open Go.IntKind renaming i64→w!
open Go.World renaming setCells→y!,setCell→A!,cell?→L!,frozen?→W!
open Go.RowKit.Below renaming heap_setCell→z!
noncomputable section
namespace Go.Vm
inductive Pos where
 |h
 |o (p:Pos)
 |i (p:Pos)
 deriving Inhabited
end Go.Vm
namespace Go.Vm.Pos
def nat:Pos->Nat
 | .h=>0
 | .o p=>2*p.nat+1
 | .i p=>2*p.nat+2
def succ:Pos->Pos
 | .h=>.o .h
 | .o p=>.i p
 | .i p=>.o p.succ
def fA(p:Pos):p.succ.nat=p.nat+1:=by
 induction p with
 |h=>rfl
 |o p a=>simp[succ,nat]
 |i p a=>simp only[succ,nat,a];omega
def zo{p q:Pos}(h:p.nat=q.nat):p=q:=by
 induction p generalizing q with
 |h=>cases q<;>simp[nat]at h⊢
 |o p a=>cases q with
  |h=>simp[nat]at h
  |o q=>rw[a (q:=q) (by simp[nat]at h;omega)]
  |i q=>simp[nat]at h;omega
 |i p a=>cases q with
  |h=>simp[nat]at h
  |o q=>simp[nat]at h;omega
  |i q=>rw[a (q:=q) (by simp[nat]at h;omega)]
def eq:Pos->Pos->Bool
 | .h,.h=>true
 | .o p,.o q=>p.eq q
 | .i p,.i q=>p.eq q
 |_,_=>false
def eq_iff{p q:Pos}:p.eq q=true↔p=q:=by
 induction p generalizing q with
 |h=>cases q<;>simp[eq]
 |o p a=>cases q<;>simp[eq,a]
 |i p a=>cases q<;>simp[eq,a]
def eq_false{p q:Pos}:p.eq q=false↔p≠q:=by
 rw[<-Bool.not_eq_true,eq_iff]
instance:DecidableEq Pos:=λ_ _=>decidable_of_iff _ eq_iff
def eq_self(p:Pos):p.eq p=true:=eq_iff.2 rfl
def XW:Nat->Nat->Pos
 |0,_=>.h
 |_+1,0=>.h
 |f+1,n+1=>cond (e! (n % 2) 0) (.o (XW f (n / 2))) (.i (XW f (n / 2)))
def of(n:Nat):Pos:=XW n n
def aCl(f n:Nat)(h:n<=f):(XW f n).nat=n:=by
 induction f generalizing n with
 |zero=>simp[XW,nat];omega
 |succ f a=>
  cases n with
  |zero=>rfl
  |succ n=>
   simp only[XW];cases hb:e! (n % 2) 0 with
   |true=>
    have:n % 2=0:=h! hb;simp only[cond_true,nat,a (n / 2) (by omega)];omega
   |false=>
    have:n % 2≠0:=o! hb;simp only[cond_false,nat,a (n / 2) (by omega)];omega
def fD(n:Nat):(of n).nat=n:=aCl n n (j! n)
def aeJ{m n:Nat}(h:of m=of n):m=n:=by
 have:=congrArg nat h;rwa[fD,fD]at this
end Go.Vm.Pos
namespace Go.Vm
inductive T (α:Type) where
 |nil
 |node (v:Option α) (l r:T α)
 deriving Inhabited
end Go.Vm
namespace Go.Vm.T
section
variable{α:Type}
def val(t:T α):Option α:=T.casesOn t none (λv _ _=>v)
def left(t:T α):T α:=T.casesOn t .nil (λ_ l _=>l)
def right(t:T α):T α:=T.casesOn t .nil (λ_ _ r=>r)
def get(t:T α)(p:Pos):Option α:=
 Pos.rec (motive:=λ_=>T α->Option α) (λt=>T.casesOn t none (λv _ _=>v))
  (λ_ a t=>T.casesOn t none (λ_ l _=>a l)) (λ_ a t=>T.casesOn t none (λ_ _ r=>a r)) p t
def set(x:Option α)(p:Pos)(t:T α):T α:=
 Pos.rec (motive:=λ_=>T α->T α)
  (λt=>T.casesOn t (.node x .nil .nil) (λ_ l r=>.node x l r))
  (λ_ a t=>T.casesOn t (.node none (a .nil) .nil) (λv l r=>.node v (a l) r))
  (λ_ a t=>T.casesOn t (.node none .nil (a .nil)) (λv l r=>.node v l (a r))) p t
def get_nil(p:Pos):(T.nil:T α).get p=none:=by cases p<;>rfl
def oW(x:Option α)(p:Pos)(t:T α):(t.set x p).get p=x:=by
 induction p generalizing t with
 |h=>cases t<;>rfl
 |o p a=>cases t with
  |nil=>exact a .nil
  |node v l r=>exact a l
 |i p a=>cases t with
  |nil=>exact a .nil
  |node v l r=>exact a r
def tJ(x:Option α){p q:Pos}(a:q≠p)(t:T α):(t.set x p).get q=t.get q:=by
 induction p generalizing q t with
 |h=>cases q with
  |h=>exact absurd rfl a
  |o q=>cases t<;>first|rfl|exact get_nil q
  |i q=>cases t<;>first|rfl|exact get_nil q
 |o p b=>cases q with
  |h=>cases t<;>rfl
  |o q=>
   have hn:q≠p:=λe=>a (by rw[e]);cases t with
   |nil=>exact(b hn .nil).trans (get_nil q)
   |node v l r=>exact b hn l
  |i q=>cases t<;>first|rfl|exact get_nil q
 |i p b=>cases q with
  |h=>cases t<;>rfl
  |o q=>cases t<;>first|rfl|exact get_nil q
  |i q=>
   have hn:q≠p:=λe=>a (by rw[e]);cases t with
   |nil=>exact(b hn .nil).trans (get_nil q)
   |node v l r=>exact b hn r
end
end Go.Vm.T
namespace Go.Vm
inductive Cap where
 |kn (c:Nat)
 |un (sz:Nat)
 deriving Inhabited
inductive V where
 |bool (b:Bool)
 |int (k:IntKind) (n:Int)
 |str (s:List Nat)
 |ptr (i:Pos) (o:Nat)
 |cZ
 |slice (i:Pos) (o len:Nat) (cap:Cap)
 |aQ
 |emp
 |map (i:Pos)
 |jM
 |func (fn:Fn) (first captured:V)
 |fJ
 |iface (t:TypeId) (v:V)
 |oQ
 |agg (l:V)
 |tuple (l:V)
 |nil
 |cons (a b:V)
 deriving Inhabited
def V.undef:V:=.tuple .nil
def V.list:V->List V
 | .cons a b=>a::b.list
 |_=> []
def V.ofList:List V->V
 | []=>.nil
 |a::l=>.cons a (V.ofList l)
def V.isRow:V->Bool
 | .nil| .cons _ _=>true
 |_=>false
def V.dB(l:List V):(V.ofList l).list=l:=by induction l<;>simp[V.ofList,V.list, *]
def V.cells:V->List V
 | .agg l=>l.list
 |v=> [v]
inductive Wr where
 |ro
 |rw (t:TypeId) (full:Bool)
def Wr.own:Wr->Bool
 | .ro=>false
 | .rw _ _=>true
inductive Ob where
 |cells (w:Wr) (cs:List V)
 |map (es:List (V×V))
 |iter (s:List Nat) (pos:Nat)
 |bytes (cs:List V)
def Ob.row:Ob->Option (Wr×List V)
 | .cells w cs=>some (w,cs)
 | .bytes cs=>some (.ro,cs)
 |_=>none
def Ob.own:Ob->Bool
 | .cells w _=>w.own
 |_=>true
structure Hp where
 t:T Ob
 next:Pos
noncomputable def Hp.get(h:Hp)(i:Pos):Option Ob:=h.t.get i
noncomputable def Hp.put(h:Hp)(i:Pos)(o:Option Ob):Hp:=⟨h.t.set o i,h.next⟩
noncomputable def Hp.new(h:Hp)(o:Ob):Hp:=⟨h.t.set (some o) h.next,h.next.succ⟩
inductive R (α:Type) where
 |ok (a:α) (h:Hp)
 |bad
structure Loc where
 blk:Nat
 off:Nat
 size:Nat
def Loc.at(L:Loc)(o:Nat):Addr:=⟨L.blk,L.off+o,none⟩
abbrev Mp:=Pos->Option Loc
def Mp.le(M N:Mp):Prop:=∀i L,M i=some L->N i=some L
def Mp.le_refl(M:Mp):M.le M:=λ_ _ h=>h
def Mp.le_trans{M N O:Mp}(h:M.le N)(g:N.le O):M.le O:=λi L e=>g i L (h i L e)
def bts(s:List Nat):ByteArray:=⟨(s.map UInt8.ofNat).toArray⟩
def scalar:Value->Bool
 | .agg _| .tuple _=>false
 |_=>true
def ahQ(L:Loc)(o n:Nat):Cap->Nat->Prop
 | .kn c,k=>k=c/\n<=c
 | .un sz,k=>(n<=k/\k<=9223372036854775807)/\L.off+o+k*sz=L.size
def Dt(M:Mp):Fn->Fn->Prop
 | .yield k,g=>∃L,M (Pos.of k)=some L/\g=.yield L.blk
 | .func f,g=>g=.func f
 | .method n,g=>g=.method n
 | .methodOf t n,g=>g=.methodOf t n
 | .via t p f b,g=>g=.via t p f b
def Dt.mono{M N:Mp}(c:M.le N){f g:Fn}(h:Dt M f g):Dt N f g:=by
 cases f<;>first|exact h|(obtain⟨L,a,b⟩:=h;exact⟨L,c _ _ a,b⟩)
def ao6:Fn->Bool
 | .yield _=>false
 | .func _=>true
 | .method _=>true
 | .methodOf _ _=>true
 | .via _ _ _ _=>true
def Dt.plain(M:Mp){f:Fn}(h:ao6 f=true):Dt M f f:=by
 cases f<;>first|rfl|cases h
def Rep(M:Mp):V->List Value->Prop
 | .bool b,l=>l= [.bool b]
 | .int k n,l=>l= [.int k n]
 | .str s,l=>(∀b∈s,b<256)/\l= [.string (bts s)]
 | .ptr i o,l=>∃L,M i=some L/\l= [.pointer (some (L.at o))]
 | .cZ,l=>l= [.pointer none]
 | .slice i o n c,l=>∃L k,M i=some L/\ahQ L o n c k/\l= [.slice (some (L.at o)) n k]
 | .aQ,l=>l= [.slice none 0 0]
 | .emp,l=>∃a k,l= [.slice (some a) 0 k]
 | .map i,l=>∃L,M i=some L/\l= [.map (some L.blk)]
 | .jM,l=>l= [.map none]
 | .func fn a b,l=>∃g x y,Dt M fn g/\(a.isRow=true/\b.isRow=true)/\Rep M a x/\Rep M b y/\l= [.func g x.toArray y.toArray]
 | .fJ,l=>l= [.nilFunc]
 | .iface t v,l=>∃x,v.isRow=false/\Rep M v [x]/\l= [.iface t x]
 | .oQ,l=>l= [.nilIface]
 | .agg a,l=>∃x,a.isRow=true/\Rep M a x/\(∀y∈x,scalar y=true)/\l= [.agg x.toArray]
 | .tuple a,l=>∃x,a.isRow=true/\Rep M a x/\l= [.tuple x.toArray]
 | .nil,l=>l= []
 | .cons a b,l=>∃x xs,a.isRow=false/\Rep M a [x]/\b.isRow=true/\Rep M b xs/\l=x::xs
def Rep.mono{M N:Mp}(d:M.le N){v:V}:∀{l:List Value},Rep M v l->Rep N v l:=by
 induction v with
 |ptr i o=>rintro l ⟨L,h,e⟩;exact⟨L,d _ _ h,e⟩
 |slice i o n c=>rintro l ⟨L,k,h,s,e⟩;exact⟨L,k,d _ _ h,s,e⟩
 |map i=>rintro l ⟨L,h,e⟩;exact⟨L,d _ _ h,e⟩
 |func fn a b j m=>rintro l ⟨f,x,y,q,p,h,g,e⟩;exact⟨f,x,y,q.mono d,p,j h,m g,e⟩
 |iface t v r=>rintro l ⟨x,p,h,e⟩;exact⟨x,p,r h,e⟩
 |agg a r=>rintro l ⟨x,p,h,e⟩;exact⟨x,p,r h,e⟩
 |tuple a r=>rintro l ⟨x,p,h,e⟩;exact⟨x,p,r h,e⟩
 |cons a b j m=>rintro l ⟨x,xs,q,h,p,g,e⟩;exact⟨x,xs,q,j h,p,m g,e⟩
 |_=>intro l h;exact h
def Rp(M:Mp)(v:V)(c:Value):Prop:=v.isRow=false/\Rep M v [c]
def Rp.mono{M N:Mp}(a:M.le N){v:V}{c:Value}(h:Rp M v c):Rp N v c:=⟨h.1,h.2.mono a⟩
def bY(M:Mp):List V->List Value->Prop
 | [],l=>l= []
 |v::vs,l=>∃x xs,Rp M v x/\bY M vs xs/\l=x::xs
def bY.mono{M N:Mp}(a:M.le N):∀{vs:List V} {l:List Value},bY M vs l->bY N vs l
 | [],_,h=>h
 |_::_,_,⟨x,xs,h,g,e⟩=>⟨x,xs,h.mono a,bY.mono a g,e⟩
def bY.length{M:Mp}:∀{vs:List V} {l:List Value},bY M vs l->l.length=vs.length
 | [],_,h=>by rw[show _= [] from h];rfl
 |_::_,_,⟨x,xs,_,g,e⟩=>by rw[e];simp[bY.length g]
def bY.get{M:Mp}:∀{vs:List V} {l:List Value} (_:bY M vs l) {k:Nat} {v:V},vs[k]?=some v->∃x,l[k]?=some x/\Rp M v x
 | [],_,_,k,v,h=>by simp at h
 |u::vs,_,⟨x,xs,a,g,e⟩,0,v,h=>by
  simp at h;subst h;subst e;exact⟨x,rfl,a⟩
 |u::vs,_,⟨x,xs,a,g,e⟩,k+1,v,h=>by
  subst e;simp at h⊢;exact bY.get g h
def bY.mk{M:Mp}:∀{vs:List V} {l:List Value},l.length=vs.length->(∀(k:Nat) (v:V),vs[k]?=some v->∃x,l[k]?=some x/\Rp M v x)->bY M vs l
 | [],l,h,_=>List.length_eq_zero_iff.1 (by simpa using h)
 |v::vs,[],h,_=>by simp at h
 |v::vs,x::l,h,g=>by
  refine⟨x,l,?_,bY.mk (by simpa using h) (λk u c=>?_),rfl⟩
  ·obtain⟨y,a,b⟩:=g 0 v rfl;simp at a;rw[a];exact b
  ·obtain⟨y,a,b⟩:=g (k+1) u (by simpa using c);exact⟨y,by simpa using a,b⟩
def bY.append{M:Mp}:∀{vs us:List V} {l k:List Value},bY M vs l->bY M us k->bY M (vs++us) (l++k)
 | [],_,_,_,h,g=>by rw[h];exact g
 |_::_,_,_,_,⟨x,xs,h,g,e⟩,a=>⟨x,_,h,bY.append g a,by rw[e];rfl⟩
def bY.of{M:Mp}:∀{v:V} {l:List Value},v.isRow=true->Rep M v l->bY M v.list l:=by
 intro v;induction v with
 |nil=>intro l _ h;exact h
 |cons a b _ c=>rintro l _ ⟨x,xs,q,h,p,g,e⟩;exact⟨x,xs,⟨q,h⟩,c p g,e⟩
 |_=>intro l p;cases p
def V.oV:∀l:List V,(V.ofList l).isRow=true
 | []=>rfl
 |_::_=>rfl
def bY.to{M:Mp}:∀{vs:List V} {l:List Value},bY M vs l->Rep M (V.ofList vs) l
 | [],_,h=>h
 |_::vs,_,⟨x,xs,h,g,e⟩=>⟨x,xs,h.1,h.2,V.oV vs,bY.to g,e⟩
def bY.drop{M:Mp}(n:Nat):∀{vs:List V} {l:List Value},bY M vs l->bY M (vs.drop n) (l.drop n):=by
 induction n with
 |zero=>intro vs l h;exact h
 |succ n a=>
  intro vs l h;cases vs with
  |nil=>rw[show l= [] from h];rfl
  |cons v vs=>obtain⟨x,xs,_,g,e⟩:=h;rw[e];exact a g
def bY.take{M:Mp}(n:Nat):∀{vs:List V} {l:List Value},bY M vs l->bY M (vs.take n) (l.take n):=by
 induction n with
 |zero=>intro vs l h;simp;rfl
 |succ n b=>
  intro vs l h;cases vs with
  |nil=>rw[show l= [] from h];rfl
  |cons v vs=>obtain⟨x,xs,a,g,e⟩:=h;rw[e];exact⟨x,_,a,b g,rfl⟩
def Rp.cells{M:Mp}{v:V}{c:Value}(h:Rp M v c):bY M v.cells c.cells.toList:=by
 obtain⟨d,h⟩:=h;have one:∀{v:V} {c:Value},v.isRow=false->Rep M v [c]->c.cells= #[c]->bY M [v] c.cells.toList:=
  λd h e=>⟨_,[],⟨d,h⟩,rfl,by rw[e]⟩
 cases v with
 |agg l=>
  obtain⟨x,p,g,_,e⟩:=h;cases e;simpa[V.cells,c!]using bY.of p g
 |nil=>cases d
 |cons a b=>cases d
 |bool b=>exact one d h (by cases h;rfl)
 |int k n=>exact one d h (by cases h;rfl)
 |str s=>exact one d h (by cases h.2;rfl)
 |ptr i o=>exact one d h (by obtain⟨_,_,e⟩:=h;cases e;rfl)
 |cZ=>exact one d h (by cases h;rfl)
 |slice i o n k=>exact one d h (by obtain⟨_,_,_,_,e⟩:=h;cases e;rfl)
 |aQ=>exact one d h (by cases h;rfl)
 |emp=>exact one d h (by obtain⟨_,_,e⟩:=h;cases e;rfl)
 |map i=>exact one d h (by obtain⟨_,_,e⟩:=h;cases e;rfl)
 |jM=>exact one d h (by cases h;rfl)
 |func f a b=>exact one d h (by obtain⟨_,_,_,_,_,_,_,e⟩:=h;cases e;rfl)
 |fJ=>exact one d h (by cases h;rfl)
 |iface t v=>exact one d h (by obtain⟨_,_,_,e⟩:=h;cases e;rfl)
 |oQ=>exact one d h (by cases h;rfl)
 |tuple l=>exact one d h (by obtain⟨_,_,_,e⟩:=h;cases e;rfl)
def kix:IntKind->Nat
 | .i8=>0| .i16=>1| .i32=>2| .i64=>3| .u8=>4| .u16=>5| .u32=>6| .u64=>7
def nR:Int->Int->Bool
 | .ofNat a,.ofNat b=>e! a b
 | .negSucc a,.negSucc b=>e! a b
 |_,_=>false
def kF:List Nat->List Nat->Bool
 | [],[]=>true
 |a::x,b::y=>(match e! a b with|true=>kF x y|false=>false)
 |_,_=>false
def iL(x y:V):Option Bool:=match x with
 | .int k a=>(match y with| .int c b=>(match e! (kix k) (kix c) with|true=>some (nR a b)|false=>none)|_=>none)
 | .str s=>(match y with| .str t=>some (kF s t)|_=>none)
 | .bool a=>(match y with| .bool b=>some (match a,b with|true,true=>true|false,false=>true|_,_=>false)|_=>none)
 |_=>none
def ig(es:List (V×V)):Prop:=(es.map (·.1)).Pairwise λa b=>iL a b=some false
def jd(M:Mp):List (V×V)->List MapEntry->Prop
 | [],l=>l= []
 |p::ps,l=>∃e es,(Rp M p.1 e.key/\Rp M p.2 e.val)/\jd M ps es/\l=e::es
def jd.mono{M N:Mp}(a:M.le N):∀{ps:List (V×V)} {l:List MapEntry},jd M ps l->jd N ps l
 | [],_,h=>h
 |_::_,_,⟨e,es,h,g,x⟩=>⟨e,es,⟨h.1.mono a,h.2.mono a⟩,jd.mono a g,x⟩
def jd.length{M:Mp}:∀{ps:List (V×V)} {l:List MapEntry},jd M ps l->l.length=ps.length
 | [],_,h=>by rw[show _= [] from h];rfl
 |_::_,_,⟨e,es,_,g,x⟩=>by rw[x];simp[jd.length g]
def wG(M:Mp)(es:List (V×V))(en:Array MapEntry)(a:Nat):Prop:=
 (∃l,List.Perm l en.toList/\jd M es l)/\ig es/\(∀e∈en.toList,e.born<a)/\(en.toList.map (·.born)).Nodup
def wG.nil(M:Mp):wG M [] #[] 0:=⟨⟨[],by simp,rfl⟩,List.Pairwise.nil,by simp,by simp⟩
def wG.mono{M N:Mp}(f:M.le N){es:List (V×V)}{en:Array MapEntry}{g:Nat}(h:wG M es en g):wG N es en g:=
 let ⟨⟨l,a,b⟩,c,d,e⟩:=h
 ⟨⟨l,a,b.mono f⟩,c,d,e⟩
def aQD(L:Loc)(el:TypeId)(fr:Nat×Nat)(n:Nat):Wr->Prop
 | .ro=>True
 | .rw t full=>el=t/\(∀k,L.off<=k->k<=L.size->¬(fr.1<=k/\k<fr.2))/\(full=true->L.off=0/\L.size=n)
def jV(M:Mp)(L:Loc)(w:World):Ob->Prop
 | .cells wr cs=>∃c el fr,w.heap[L.blk]?=some (.cells c el fr)/\c.size=L.size/\
   (∀(k:Nat) (v:V),cs[k]?=some v->∃x,c[L.off+k]?=some x/\Rp M v x/\scalar x=true)/\
   aQD L el fr cs.length wr
 | .bytes cs=>∃c el fr,w.heap[L.blk]?=some (.cells c el fr)/\c.size=L.size/\
   (∀(k:Nat) (v:V),cs[k]?=some v->∃x,c[L.off+k]?=some x/\Rp M v x/\scalar x=true)/\
   (∀k,L.off<=k->k<L.size->¬(fr.1<=k/\k<fr.2))
 | .map es=>∃en a,w.heap[L.blk]?=some (.map en a)/\wG M es en a
 | .iter s pos=>(∀b∈s,b<256)/\w.heap[L.blk]?=some (.stringIter (bts s) pos)
def jV.mono{M N:Mp}(d:M.le N){L:Loc}{w:World}{o:Ob}(h:jV M L w o):jV N L w o:=by
 cases o with
 |cells wr cs=>
  obtain⟨c,el,fr,a,b,g,f⟩:=h;exact⟨c,el,fr,a,b,λk v hk=>let ⟨x,p,q,r⟩:=g k v hk;⟨x,p,q.mono d,r⟩,f⟩
 |map es=>
  obtain⟨en,e,a,b⟩:=h;exact⟨en,e,a,b.mono d⟩
 |iter s pos=>exact h
 |bytes cs=>
  obtain⟨c,el,fr,a,b,g,f⟩:=h;exact⟨c,el,fr,a,b,λk v hk=>let ⟨x,p,q,r⟩:=g k v hk;⟨x,p,q.mono d,r⟩,f⟩
def jV.of_block{M:Mp}{L:Loc}{w w':World}{o:Ob}(h:jV M L w o)(hb:w'.heap[L.blk]?=w.heap[L.blk]?):jV M L w' o:=by
 cases o<;>simpa only[jV,hb]using h
def jV.lt{M:Mp}{L:Loc}{w:World}{o:Ob}(h:jV M L w o):L.blk<w.heap.size:=by
 cases o with
 |cells wr cs=>obtain⟨c,el,fr,a,_⟩:=h;exact(b!.1 a).1
 |map es=>obtain⟨en,b,a,_⟩:=h;exact(b!.1 a).1
 |iter s pos=>exact(b!.1 h.2).1
 |bytes cs=>obtain⟨c,el,fr,a,_⟩:=h;exact(b!.1 a).1
structure Rel (G:Nat) (M:Mp) (h:Hp) (w:World):Prop where
 ob:∀i o,h.get i=some o->∃L,M i=some L/\jV M L w o
 fresh:∀i,h.next.nat<=i.nat->M i=none
 sep:∀i j o p L K,i≠j->h.get i=some o->h.get j=some p->o.own=true->M i=some L->M j=some K->L.blk≠K.blk
 gl:∀g,g<G->∃n,M (Pos.of g)=some ⟨g,0,n⟩
structure Ext (M:Mp) (h:Hp) (w:World) (M':Mp) (h':Hp) (w':World):Prop where
 le:M.le M'
 next:h.next.nat<=h'.next.nat
 os:w'.os=w.os
 tape:w'.tape=w.tape
 output:w'.output=w.output
 size:w.heap.size<=w'.heap.size
 same:∀b,b<w.heap.size->(∀i o L,h.get i=some o->o.own=true->M i=some L->L.blk≠b)->w'.heap[b]?=w.heap[b]?
 own:∀i o L,h'.get i=some o->o.own=true->M' i=some L->w.heap.size<=L.blk\/∃j p K,h.get j=some p/\p.own=true/\M j=some K/\K.blk=L.blk
 old:∀i,i.nat<h.next.nat->h.get i=none->h'.get i=none
 all:∀i o L,h'.get i=some o->M' i=some L->w.heap.size<=L.blk\/∃j p K,h.get j=some p/\M j=some K/\K.blk=L.blk
 none:∀i,i.nat<h.next.nat->M i=none->M' i=none
def Ext.refl{G:Nat}{M:Mp}{h:Hp}{w:World}(_:Rel G M h w):Ext M h w M h w:=
 ⟨M.le_refl,j! _,rfl,rfl,rfl,j! _,λ_ _ _=>rfl,λi o L a b c=>.inr ⟨i,o,L,a,b,c,rfl⟩,λ_ _ h=>h,λi o L a b=>.inr ⟨i,o,L,a,b,rfl⟩,λ_ _ h=>h⟩
def Ext.trans{M N O:Mp}{h g f:Hp}{w x y:World}(a:Ext M h w N g x)(b:Ext N g x O f y):Ext M h w O f y where
 le:=Mp.le_trans a.le b.le
 next:=K! a.next b.next
 os:=b.os.trans a.os
 tape:=b.tape.trans a.tape
 output:=b.output.trans a.output
 size:=K! a.size b.size
 same k hk r:=by
  rw[b.same k (F! hk a.size) (λi o L hi s q e=>?_),a.same k hk r];rcases a.own i o L hi s q with l|⟨j,p,K,hj,t,n,m⟩
  ·omega
  ·exact r j p K hj t n (m.trans e)
 own i o L hi s q:=by
  rcases b.own i o L hi s q with l|⟨j,p,K,hj,t,n,e⟩
  ·exact .inl (K! a.size l)
  ·rcases a.own j p K hj t n with l|⟨j',v,K',d,u,c,m⟩
   ·exact .inl (by omega)
   ·exact .inr ⟨j',v,K',d,u,c,m.trans e⟩
 old i hi hn:=b.old i (F! hi a.next) (a.old i hi hn)
 all i o L hi q:=by
  rcases b.all i o L hi q with l|⟨j,p,K,hj,n,e⟩
  ·exact .inl (K! a.size l)
  ·rcases a.all j p K hj n with l|⟨j',v,K',d,c,m⟩
   ·exact .inl (by omega)
   ·exact .inr ⟨j',v,K',d,c,m.trans e⟩
 none i hi hn:=b.none i (F! hi a.next) (a.none i hi hn)
def Rel.heap{G:Nat}{M:Mp}{h:Hp}{w w':World}(r:Rel G M h w)(e:w'.heap=w.heap):Rel G M h w':=
 ⟨λi o hi=>let ⟨L,a,b⟩:=r.ob i o hi;⟨L,a,b.of_block (by rw[e])⟩,r.fresh,r.sep,r.gl⟩
def Hp.dQ(h:Hp)(i:Pos)(o:Option Ob):(h.put i o).get i=o:=T.oW _ _ _
def Hp.dw(h:Hp){i j:Pos}(hn:j≠i)(o:Option Ob):(h.put i o).get j=h.get j:=T.tJ _ hn _
def Hp.qM(h:Hp)(o:Ob):(h.new o).get h.next=some o:=T.oW _ _ _
def Hp.jr(h:Hp){j:Pos}(hn:j≠h.next)(o:Ob):(h.new o).get j=h.get j:=T.tJ _ hn _
def Rel.lt_next{G:Nat}{M:Mp}{h:Hp}{w:World}(r:Rel G M h w){i:Pos}{L:Loc}(hi:M i=some L):i.nat<h.next.nat:=by
 rcases Nat.lt_or_ge i.nat h.next.nat with hl|hl
 ·exact hl
 ·rw[r.fresh i hl]at hi;cases hi
def Rel.ne_next{G:Nat}{M:Mp}{h:Hp}{w:World}(r:Rel G M h w){i:Pos}{L:Loc}(hi:M i=some L):i≠h.next:=by
 intro e;have:=r.lt_next hi;rw[e]at this;omega
def Mp.add(M:Mp)(i:Pos)(L:Loc):Mp:=λj=>if j=i then some L else M j
def Mp.fB(M:Mp)(i:Pos)(L:Loc):M.add i L i=some L:=if_pos rfl
def Mp.gy(M:Mp){i j:Pos}(hn:j≠i)(L:Loc):M.add i L j=M j:=if_neg hn
def Mp.Ut{M:Mp}{i:Pos}(h:M i=none)(L:Loc):M.le (M.add i L):=by
 intro j K hj;by_cases e:j=i
 ·subst e;rw[h]at hj;cases hj
 ·rw[M.gy e];exact hj
def Rel.new{G:Nat}{M:Mp}{h:Hp}{w:World}(r:Rel G M h w)(o:Ob)(b:Obj)(n:Nat){w':World}
  (C:w'.heap=w.heap.push b) (z:w'.os=w.os) (ht:w'.tape=w.tape) (v:w'.output=w.output)
  (E:∀N:Mp,M.le N->jV N ⟨w.heap.size,0,n⟩ w' o):
  Rel G (M.add h.next ⟨w.heap.size,0,n⟩) (h.new o) w'/\Ext M h w (M.add h.next ⟨w.heap.size,0,n⟩) (h.new o) w'/\M.le (M.add h.next ⟨w.heap.size,0,n⟩):=by
 have f:M h.next=none:=r.fresh _ (j! _);have c:=Mp.Ut f ⟨w.heap.size,0,n⟩;have d:∀k,k<w.heap.size->w'.heap[k]?=w.heap[k]?:=λk hk=>by rw[C,Array.getElem?_push,if_neg (by omega)]
 refine⟨⟨λi p hi=>?_,λi hi=>?_,λi j p q L K hn hi hj B a m=>?_,λg D=>?_⟩,⟨c,?_,z,ht,v,by rw[C];simp,λk hk _=>d k hk,λi p L hi B a=>?_,λi hi hn=>?_,λi p L hi a=>?_,λi hi hn=>?_⟩,c⟩
 ·by_cases e:i=h.next
  ·subst e;rw[h.qM]at hi;cases hi;exact⟨_,M.fB _ _,E _ c⟩
  ·rw[h.jr e]at hi;obtain⟨L,a,s⟩:=r.ob i p hi;exact⟨L,by rw[M.gy e];exact a,(s.of_block (d _ s.lt)).mono c⟩
 ·have H:(h.new o).next.nat=h.next.nat+1:=Pos.fA _;rw[H]at hi;have e:i≠h.next:=λe=>by rw[e]at hi;omega
  rw[M.gy e];exact r.fresh i (by omega)
 ·by_cases x:i=h.next
  ·subst x;rw[M.fB]at a;cases a;have l:j≠h.next:=λe=>hn e.symm;rw[M.gy l]at m;rw[h.jr l]at hj;obtain⟨K',t,s⟩:=r.ob j q hj;rw[m]at t;cases t;have:=s.lt;show w.heap.size≠K.blk;omega
  ·rw[M.gy x]at a;rw[h.jr x]at hi;obtain⟨J,u,s⟩:=r.ob i p hi;rw[a]at u;cases u;by_cases l:j=h.next
   ·subst l;rw[M.fB]at m;cases m;have:=s.lt;show L.blk≠w.heap.size;omega
   ·rw[M.gy l]at m;rw[h.jr l]at hj;exact r.sep i j p q L K hn hi hj B a m
 ·obtain⟨I,y⟩:=r.gl g D;exact⟨I,c _ _ y⟩
 ·show h.next.nat<=h.next.succ.nat;rw[Pos.fA];omega
 ·by_cases e:i=h.next
  ·subst e;rw[M.fB]at a;cases a;exact .inl (j! _)
  ·rw[h.jr e]at hi;rw[M.gy e]at a;exact .inr ⟨i,p,L,hi,B,a,rfl⟩
 ·have e:i≠h.next:=λe=>by rw[e]at hi;omega
  rw[h.jr e];exact hn
 ·by_cases e:i=h.next
  ·subst e;rw[M.fB]at a;cases a;exact .inl (j! _)
  ·rw[h.jr e]at hi;rw[M.gy e]at a;exact .inr ⟨i,p,L,hi,a,rfl⟩
 ·have e:i≠h.next:=λe=>by rw[e]at hi;omega
  rw[M.gy e];exact hn
def Rel.turn{G:Nat}{M:Mp}{h:Hp}{w:World}(r:Rel G M h w){i:Pos}{o o':Ob}{L:Loc}(hi:h.get i=some o)(d:M i=some L)
  (c:o.own=true) {w':World} (E:w'.heap.size=w.heap.size) (g:∀k,k≠L.blk->w'.heap[k]?=w.heap[k]?)
  (u:w'.os=w.os) (ht:w'.tape=w.tape) (l:w'.output=w.output) (C:jV M L w' o'):
  Rel G M (h.put i (some o')) w'/\Ext M h w M (h.put i (some o')) w':=by
 refine⟨⟨λj p hj=>?_,r.fresh,λa b p q A B hn s hb v m n=>?_,r.gl⟩,⟨M.le_refl,j! _,u,ht,l,by omega,λk hk t=>g k (λe=>t i o L hi c d e.symm),λj p K hj v f=>?_,λj hj hn=>?_,λj p K hj f=>?_,λ_ _ hn=>hn⟩⟩
 ·by_cases e:j=i
  ·subst e;rw[h.dQ]at hj;cases hj;exact⟨L,d,C⟩
  ·rw[h.dw e]at hj;obtain⟨K,f,D⟩:=r.ob j p hj;exact⟨K,f,D.of_block (g _ (λz=>r.sep i j o p L K (Ne.symm e) hi hj c d f z.symm))⟩
 ·by_cases x:a=i
  ·subst x;rw[h.dw (Ne.symm hn)]at hb;rw[d]at m;cases m;exact r.sep a b o q L B hn hi hb c d n
  ·rw[h.dw x]at s;by_cases y:b=i
   ·subst y;rw[d]at n;cases n;exact λe=>r.sep b a o p L A (Ne.symm hn) hi s c d m e.symm
   ·rw[h.dw y]at hb;exact r.sep a b p q A B hn s hb v m n
 ·by_cases e:j=i
  ·subst e;rw[d]at f;cases f;exact .inr ⟨j,o,L,hi,c,d,rfl⟩
  ·rw[h.dw e]at hj;exact .inr ⟨j,p,K,hj,v,f,rfl⟩
 ·by_cases e:j=i
  ·subst e;rw[hi]at hn;cases hn
  ·rw[h.dw e];exact hn
 ·by_cases e:j=i
  ·subst e;rw[d]at f;cases f;exact .inr ⟨j,o,L,hi,d,rfl⟩
  ·rw[h.dw e]at hj;exact .inr ⟨j,p,K,hj,f,rfl⟩
def Rel.drop{G:Nat}{M:Mp}{h:Hp}{w:World}(r:Rel G M h w)(i:Pos):Rel G M (h.put i none) w/\Ext M h w M (h.put i none) w:=by
 have key:∀{j:Pos} {p:Ob},(h.put i none).get j=some p->h.get j=some p:=λ{j p} hj=>by
  by_cases e:j=i
  ·subst e;rw[h.dQ]at hj;cases hj
  ·rwa[h.dw e]at hj
 refine⟨⟨λj p hj=>r.ob j p (key hj),r.fresh,λa b p q A B hn d hb=>r.sep a b p q A B hn (key d) (key hb),r.gl⟩,⟨M.le_refl,j! _,rfl,rfl,rfl,j! _,λ_ _ _=>rfl,λj p K hj f c=>.inr ⟨j,p,K,key hj,f,c,rfl⟩,λj hj hn=>?_,λj p K hj c=>.inr ⟨j,p,K,key hj,c,rfl⟩,λ_ _ hn=>hn⟩⟩;by_cases e:j=i
 ·subst e;exact h.dQ _ _
 ·rw[h.dw e];exact hn
def Rel.cell{G:Nat}{M:Mp}{h:Hp}{w:World}(r:Rel G M h w){i:Pos}{wr:Wr}{cs:List V}{L:Loc}{k:Nat}{v:V}
  (hi:(h.get i).bind Ob.row=some (wr,cs)) (m:M i=some L) (hk:cs[k]?=some v):
  ∃x,w.cell? (L.at k)=some x/\Rp M v x/\scalar x=true:=by
 cases d:h.get i with
 |none=>rw[d]at hi;cases hi
 |some o=>
  rw[d]at hi;obtain⟨n,a,l⟩:=r.ob i _ d;rw[m]at a;cases a;cases o with
  |cells q cs0=>
   cases hi;obtain⟨c,el,fr,hb,g,b,_⟩:=l;obtain⟨x,j,e,f⟩:=b k v hk;exact⟨x,by simp[L!,Loc.at,hb,j],e,f⟩
  |bytes cs0=>
   cases hi;obtain⟨c,el,fr,hb,g,b,_⟩:=l;obtain⟨x,j,e,f⟩:=b k v hk;exact⟨x,by simp[L!,Loc.at,hb,j],e,f⟩
  |map es=>cases hi
  |iter s p=>cases hi
def qL{h:Hp}{i:Pos}{t:TypeId}{f:Bool}{cs:List V}(hi:(h.get i).bind Ob.row=some (.rw t f,cs)):h.get i=some (.cells (.rw t f) cs):=by
 cases a:h.get i with
 |none=>rw[a]at hi;cases hi
 |some o=>
  rw[a]at hi;cases o<;>first|(cases hi;done)|(cases hi;rfl)
def LK(n:Nat)(l:List V):Option V:=
 J! (motive:=λ_=>List V->Option V) (λl=>k! l none (λa _=>some a)) (λ_ b l=>k! l none (λ_ t=>b t)) n l
def fG(n:Nat)(l:List V):List V:=
 J! (motive:=λ_=>List V->List V) (λl=>l) (λ_ a l=>k! l [] (λ_ t=>a t)) n l
def gJ(n:Nat)(l:List V):Option (List V):=
 J! (motive:=λ_=>List V->Option (List V)) (λ_=>some []) (λ_ b l=>k! l none (λa t=>i! (b t) none (λr=>some (a::r)))) n l
def Sv(vs:List V)(l:List V):Option (List V):=
 List.rec (motive:=λ_=>List V->Option (List V)) (λl=>some l) (λv _ a l=>k! l none (λ_ t=>i! (a t) none (λr=>some (v::r)))) vs l
def jK(n:Nat)(vs:List V)(l:List V):Option (List V):=
 J! (motive:=λ_=>List V->Option (List V)) (λl=>Sv vs l) (λ_ b l=>k! l none (λa t=>i! (b t) none (λr=>some (a::r)))) n l
def oz(n:Nat):∀l:List V,LK n l=l[n]?:=by
 induction n with
 |zero=>intro l;cases l<;>rfl
 |succ n b=>intro l;cases l with
  |nil=>rfl
  |cons a t=>exact(b t).trans (by simp)
def jO(n:Nat):∀l:List V,fG n l=l.drop n:=by
 induction n with
 |zero=>intro l;rfl
 |succ n b=>intro l;cases l with
  |nil=>rfl
  |cons a t=>exact(b t).trans (by simp)
def TV(n:Nat):∀{l r:List V},gJ n l=some r->n<=l.length/\r=l.take n:=by
 induction n with
 |zero=>intro l r h;cases h;simp
 |succ n c=>intro l r h;cases l with
  |nil=>cases h
  |cons a t=>
   change i! (gJ n t) none (λr=>some (a::r))=some r at h;cases ht:gJ n t with
   |none=>rw[ht]at h;cases h
   |some s=>rw[ht]at h;cases h;obtain⟨d,b⟩:=c ht;exact⟨by simp;omega,by rw[b];rfl⟩
def Ie{n:Nat}:∀{l:List V},n<=l.length->gJ n l=some (l.take n):=by
 induction n with
 |zero=>intro l _;rfl
 |succ n b=>intro l h;cases l with
  |nil=>simp at h
  |cons a t=>
   change @i! (List V) (λ_=>Option (List V)) (gJ n t) none (λr=>some (a::r))=_;rw[b (by simpa using h)];rfl
def aGn(vs:List V):∀{l r:List V},Sv vs l=some r->vs.length<=l.length/\r=vs++l.drop vs.length:=by
 induction vs with
 |nil=>intro l r h;cases h;simp
 |cons v vs c=>intro l r h;cases l with
  |nil=>cases h
  |cons a t=>
   change i! (Sv vs t) none (λr=>some (v::r))=some r at h;cases ht:Sv vs t with
   |none=>rw[ht]at h;cases h
   |some s=>rw[ht]at h;cases h;obtain⟨d,b⟩:=c ht;exact⟨by simp;omega,by rw[b];rfl⟩
def FU(n:Nat)(vs:List V):∀{l r:List V},jK n vs l=some r->n+vs.length<=l.length/\r=l.take n++vs++l.drop (n+vs.length):=by
 induction n with
 |zero=>intro l r h;obtain⟨a,b⟩:=aGn vs h;exact⟨by omega,by rw[b];simp⟩
 |succ n d=>intro l r h;cases l with
  |nil=>cases h
  |cons a t=>
   change i! (jK n vs t) none (λr=>some (a::r))=some r at h;cases ht:jK n vs t with
   |none=>rw[ht]at h;cases h
   |some s=>
    rw[ht]at h;cases h;obtain⟨e,c⟩:=d ht;exact⟨by simp;omega,by rw[c,show n+1+vs.length=(n+vs.length)+1 from by omega];rfl⟩
def akp{n:Nat}{vs l r:List V}(h:jK n vs l=some r)(k:Nat):r[k]?=if k<n then l[k]? else if k<n+vs.length then vs[k - n]? else l[k]?:=by
 obtain⟨c,b⟩:=FU n vs h;have ht:(l.take n).length=n:=by simp;omega
 rw[b,List.append_assoc,R!];split
 ·rename_i hk;rw[ht]at hk;rw[if_pos hk,E!,if_pos hk]
 ·rename_i hk;rw[ht]at hk⊢;rw[if_neg hk,R!];split
  ·rename_i a;rw[if_pos (by omega)]
  ·rename_i a;rw[if_neg (by omega),V!];congr 1;omega
def Rel.cells{G:Nat}{M:Mp}{h:Hp}{w:World}(r:Rel G M h w){i:Pos}{wr:Wr}{cs:List V}{L:Loc}{n o:Nat}{vs:List V}
  (hi:(h.get i).bind Ob.row=some (wr,cs)) (u:M i=some L) (ht:gJ n (fG o cs)=some vs):
  ∃xs:List Value,bY M vs xs/\xs.length=n/\(∀x∈xs,scalar x=true)/\∀(j:Nat) (x:Value),xs[j]?=some x->w.cell? ((L.at o).add j)=some x:=by
 obtain⟨hn,s⟩:=TV n ht;rw[jO]at hn s;have e:vs.length=n:=by rw[s];simp at hn⊢;omega
 have g:∀j v,vs[j]?=some v->cs[o+j]?=some v:=λj v hj=>by
  rw[s,E!]at hj;split at hj
  ·rwa[V!]at hj
  ·cases hj
 have t:∀j:Nat,∃x:Value,j<n->∃v,vs[j]?=some v/\w.cell? (L.at (o+j))=some x/\Rp M v x/\scalar x=true:=λj=>by
  by_cases hj:j<n
  ·have p:vs[j]?=some vs[j]:=t! (by omega);obtain⟨x,a,b,c⟩:=r.cell hi u (g j _ p);exact⟨x,λ_=>⟨_,p,a,b,c⟩⟩
  ·exact⟨undef,λh=>absurd h hj⟩
 let f:Nat->Value:=λj=>(t j).choose
 have q:∀j,j<n->∃v,vs[j]?=some v/\w.cell? (L.at (o+j))=some (f j)/\Rp M v (f j)/\scalar (f j)=true:=λj hj=>(t j).choose_spec hj;refine⟨(List.range n).map f,bY.mk (by simp[e]) (λk v hk=>?_),by simp,λx y=>?_,λj x hj=>?_⟩
 ·have m:k<n:=by
   rw[<-e];exact(r!.1 hk).1
  obtain⟨v',a,b,c,d⟩:=q k m;rw[hk]at a;cases a;exact⟨f k,by simp[m],c⟩
 ·obtain⟨j,hj,rfl⟩:=List.mem_map.1 y;obtain⟨v',a,b,c,d⟩:=q j (List.mem_range.1 hj);exact d
 ·have l:j<n:=by
   have:=(r!.1 hj).1;simpa using this
  obtain⟨v',a,b,c,d⟩:=q j l;simp[l]at hj;subst hj;rw[<-b];congr 1;unfold Loc.at Addr.add;simp only;split<;>simp_all[a?]
def Sj{x:Value}(h:scalar x=true):x.oneCell'=true:=by
 cases x<;>simp_all[scalar,Value.oneCell']
def aGi{n:Nat}{vs l r:List V}(h:jK n vs l=some r):r.length=l.length:=by
 obtain⟨a,rfl⟩:=FU n vs h;simp;omega
def Rel.store{P:Program}{G:Nat}{M:Mp}{h:Hp}{w:World}(r:Rel G M h w){i:Pos}{cs m:List V}{L:Loc}{o:Nat}{vs:List V}{xs:List Value}
  {t:TypeId} {full:Bool} (hi:h.get i=some (.cells (.rw t full) cs)) (N:M i=some L) (I:jK o vs cs=some m) (U:bY M vs xs) (n:∀x∈xs,scalar x=true):
  ∃w',(storeCells (L.at o) xs).run P w=.ok () w'/\Rel G M (h.put i (some (.cells (.rw t full) m))) w'/\Ext M h w M (h.put i (some (.cells (.rw t full) m))) w':=by
 obtain⟨Q,_⟩:=FU o vs I;obtain⟨L',s,c,el,fr,hb,ab,H,d⟩:=r.ob i _ hi;rw[N]at s;cases s;have ac:=U.length;have p:∀j,j<xs.length->L.off+o+j<c.size:=λj hj=>by
  have hk:(cs[o+j]?)=some cs[o+j]:=t! (by omega);obtain⟨x,g,_⟩:=H (o+j) _ hk;have:=(b!.1 g).1;omega
 have l:=run_storeCells_cells (P:=P) L.blk (L.off+o) xs 0 w
  (λj hj=>by
   have:=p j hj;simp[L!,hb,this])
  (λj hj=>by
   have n:=p j hj;have:=d.2.1 (L.off+o+j) (by omega) (by omega);simp[W!,hb];omega)
  (λv hv=>Sj (n v hv))
 simp only[e?]at l;refine⟨_,l,?_⟩;have u:∃b,(w.setCells L.blk (L.off+o) xs).heap[L.blk]?=some (.cells b el fr)/\b.size=c.size/\(∀k,b[k]?=if L.off+o<=k/\k<L.off+o+xs.length then xs[k - (L.off+o)]? else c[k]?):=by
  have key:∀(xs:List Value) (a:Nat) (c:Array Value) (w:World),w.heap[L.blk]?=some (.cells c el fr)->(∀j,j<xs.length->a+j<c.size)->
    ∃b,(w.setCells L.blk a xs).heap[L.blk]?=some (.cells b el fr)/\b.size=c.size/\(∀k,b[k]?=if a<=k/\k<a+xs.length then xs[k - a]? else c[k]?):=by
   intro xs;induction xs with
   |nil=>intro a c w J _;exact⟨c,J,rfl,λk=>by rw[if_neg (by simp<;>omega)]⟩
   |cons x xs B=>
    intro a c w J f;have K:(w.setCell ⟨L.blk,a,none⟩ x).heap[L.blk]?=some (.cells (c.setIfInBounds a x) el fr):=by
     simp[A!,P!,J]
    obtain⟨b,n,C,D⟩:=B (a+1) (c.setIfInBounds a x) _ K (λj hj=>by have:=f (j+1) (by simp;omega);simp;omega);refine⟨b,n,by simpa using C,λk=>?_⟩;rw[D k];have ha:=f 0 (by simp)
    by_cases e:k=a
    ·subst e;rw[if_neg (by omega),if_pos (by simp)];rw[d?,x! (by simpa using ha)];rfl
    ·by_cases hk:a+1<=k/\k<a+1+xs.length
     ·rw[if_pos hk,if_pos (by simp;omega),show k - a=(k - (a+1))+1 from by omega];simp
     ·rw[if_neg hk,if_neg (by simp at hk⊢;omega),I! (by omega)]
  exact key xs (L.off+o) c w hb (λj hj=>p j hj)
 obtain⟨b,E,S,y⟩:=u;have z:∀k,k≠L.blk->(w.setCells L.blk (L.off+o) xs).heap[k]?=w.heap[k]?:=by
  have key:∀(xs:List Value) (a:Nat) (w:World) (k:Nat),k≠L.blk->(w.setCells L.blk a xs).heap[k]?=w.heap[k]?:=by
   intro xs;induction xs with
   |nil=>intros;rfl
   |cons x xs B=>intro a w k hk;rw[y!,B _ _ _ hk];exact z! _ _ _ _ hk
  exact λk hk=>key xs _ w k hk
 have q:∀(xs:List Value) (a:Nat) (w:World),(w.setCells L.blk a xs).heap.size=w.heap.size/\(w.setCells L.blk a xs).os=w.os/\(w.setCells L.blk a xs).tape=w.tape/\(w.setCells L.blk a xs).output=w.output:=by
  intro xs;induction xs with
  |nil=>intros;exact⟨rfl,rfl,rfl,rfl⟩
  |cons x xs B=>intro a w;obtain⟨n,C,D,h4⟩:=B (a+1) (w.setCell ⟨L.blk,a,none⟩ x);exact⟨by rw[y!,n];simp[A!],C,D,h4⟩
 obtain⟨W,X,Y,Z⟩:=q xs (L.off+o) w;refine r.turn hi N rfl W z X Y Z ⟨b,el,fr,E,by omega,λk v hk=>?_,d.1,d.2.1,λO=>⟨(d.2.2 O).1,by rw[(d.2.2 O).2,aGi I]⟩⟩;rw[akp I]at hk;rw[y];split at hk
 ·rename_i f;rw[if_neg (by omega)];exact H k v hk
 ·rename_i aa;split at hk
  ·rename_i f;rw[if_pos (by omega),show L.off+k - (L.off+o)=k - o from by omega];obtain⟨x,g,hr⟩:=U.get hk;exact⟨x,g,hr,n x (p! g)⟩
  ·rw[if_neg (by omega)];exact H k v hk
def Rel.aNy{P:Program}{G:Nat}{M:Mp}{h:Hp}{w:World}(r:Rel G M h w){i:Pos}{cs l:List V}{L:Loc}{o:Nat}{vs:List V}{xs:List Value}
  (hi:h.get i=some (.bytes cs)) (J:M i=some L) (N:jK o vs cs=some l) (Q:bY M vs xs) (m:∀x∈xs,scalar x=true):
  ∃w',(storeCells (L.at o) xs).run P w=.ok () w'/\Rel G M (h.put i (some (.bytes l))) w'/\Ext M h w M (h.put i (some (.bytes l))) w':=by
 obtain⟨K,_⟩:=FU o vs N;obtain⟨L',q,c,el,fr,hb,ab,E,t⟩:=r.ob i _ hi;rw[J]at q;cases q;have ac:=Q.length;have n:∀j,j<xs.length->L.off+o+j<c.size:=λj hj=>by
  have hk:(cs[o+j]?)=some cs[o+j]:=t! (by omega);obtain⟨x,f,_⟩:=E (o+j) _ hk;have:=(b!.1 f).1;omega
 have g:=run_storeCells_cells (P:=P) L.blk (L.off+o) xs 0 w
  (λj hj=>by
   have:=n j hj;simp[L!,hb,this])
  (λj hj=>by
   have m:=n j hj;have:=t (L.off+o+j) (by omega) (by omega);simp[W!,hb];omega)
  (λv hv=>Sj (m v hv))
 simp only[e?]at g;refine⟨_,g,?_⟩;have s:∃b,(w.setCells L.blk (L.off+o) xs).heap[L.blk]?=some (.cells b el fr)/\b.size=c.size/\(∀k,b[k]?=if L.off+o<=k/\k<L.off+o+xs.length then xs[k - (L.off+o)]? else c[k]?):=by
  have key:∀(xs:List Value) (a:Nat) (c:Array Value) (w:World),w.heap[L.blk]?=some (.cells c el fr)->(∀j,j<xs.length->a+j<c.size)->
    ∃b,(w.setCells L.blk a xs).heap[L.blk]?=some (.cells b el fr)/\b.size=c.size/\(∀k,b[k]?=if a<=k/\k<a+xs.length then xs[k - a]? else c[k]?):=by
   intro xs;induction xs with
   |nil=>intro a c w H _;exact⟨c,H,rfl,λk=>by rw[if_neg (by simp<;>omega)]⟩
   |cons x xs z=>
    intro a c w H d;have I:(w.setCell ⟨L.blk,a,none⟩ x).heap[L.blk]?=some (.cells (c.setIfInBounds a x) el fr):=by
     simp[A!,P!,H]
    obtain⟨b,m,B,C⟩:=z (a+1) (c.setIfInBounds a x) _ I (λj hj=>by have:=d (j+1) (by simp;omega);simp;omega);refine⟨b,m,by simpa using B,λk=>?_⟩;rw[C k];have Z:=d 0 (by simp)
    by_cases e:k=a
    ·subst e;rw[if_neg (by omega),if_pos (by simp)];rw[d?,x! (by simpa using Z)];rfl
    ·by_cases hk:a+1<=k/\k<a+1+xs.length
     ·rw[if_pos hk,if_pos (by simp;omega),show k - a=(k - (a+1))+1 from by omega];simp
     ·rw[if_neg hk,if_neg (by simp at hk⊢;omega),I! (by omega)]
  exact key xs (L.off+o) c w hb (λj hj=>n j hj)
 obtain⟨b,D,O,u⟩:=s;have y:∀k,k≠L.blk->(w.setCells L.blk (L.off+o) xs).heap[k]?=w.heap[k]?:=by
  have key:∀(xs:List Value) (a:Nat) (w:World) (k:Nat),k≠L.blk->(w.setCells L.blk a xs).heap[k]?=w.heap[k]?:=by
   intro xs;induction xs with
   |nil=>intros;rfl
   |cons x xs z=>intro a w k hk;rw[y!,z _ _ _ hk];exact z! _ _ _ _ hk
  exact λk hk=>key xs _ w k hk
 have p:∀(xs:List Value) (a:Nat) (w:World),(w.setCells L.blk a xs).heap.size=w.heap.size/\(w.setCells L.blk a xs).os=w.os/\(w.setCells L.blk a xs).tape=w.tape/\(w.setCells L.blk a xs).output=w.output:=by
  intro xs;induction xs with
  |nil=>intros;exact⟨rfl,rfl,rfl,rfl⟩
  |cons x xs z=>intro a w;obtain⟨m,B,C,Y⟩:=z (a+1) (w.setCell ⟨L.blk,a,none⟩ x);exact⟨by rw[y!,m];simp[A!],B,C,Y⟩
 obtain⟨S,U,W,X⟩:=p xs (L.off+o) w;refine r.turn hi J rfl S y U W X ⟨b,el,fr,D,by omega,λk v hk=>?_,t⟩;rw[akp N]at hk;rw[u];split at hk
 ·rename_i d;rw[if_neg (by omega)];exact E k v hk
 ·rename_i aa;split at hk
  ·rename_i d;rw[if_pos (by omega),show L.off+k - (L.off+o)=k - o from by omega];obtain⟨x,f,hr⟩:=Q.get hk;exact⟨x,f,hr,m x (p! f)⟩
  ·rw[if_neg (by omega)];exact E k v hk
section
variable{α:Type}
variable{M:Mp}{c:Value}
def Rp.bool{b:Bool}(h:Rp M (.bool b) c):c=.bool b:=by cases h.2;rfl
def Rp.int{k:IntKind}{n:Int}(h:Rp M (.int k n) c):c=.int k n:=by cases h.2;rfl
def Rp.str{s:List Nat}(h:Rp M (.str s) c):(∀b∈s,b<256)/\c=.string (bts s):=⟨h.2.1,by cases h.2.2;rfl⟩
def Rp.ptr{i:Pos}{o:Nat}(h:Rp M (.ptr i o) c):∃L,M i=some L/\c=.pointer (some (L.at o)):=by
 obtain⟨_,L,a,e⟩:=h;cases e;exact⟨L,a,rfl⟩
def Rp.cZ(h:Rp M .cZ c):c=.pointer none:=by cases h.2;rfl
def Rp.slice{i:Pos}{o n:Nat}{k:Cap}(h:Rp M (.slice i o n k) c):∃L m,M i=some L/\ahQ L o n k m/\c=.slice (some (L.at o)) n m:=by
 obtain⟨_,L,m,a,b,e⟩:=h;cases e;exact⟨L,m,a,b,rfl⟩
def Rp.aQ(h:Rp M .aQ c):c=.slice none 0 0:=by cases h.2;rfl
def Rp.emp(h:Rp M .emp c):∃a k,c=.slice (some a) 0 k:=by obtain⟨_,a,k,e⟩:=h;cases e;exact⟨a,k,rfl⟩
def Rp.map{i:Pos}(h:Rp M (.map i) c):∃L,M i=some L/\c=.map (some L.blk):=by obtain⟨_,L,a,e⟩:=h;cases e;exact⟨L,a,rfl⟩
def Rp.jM(h:Rp M .jM c):c=.map none:=by cases h.2;rfl
def Rp.fJ(h:Rp M .fJ c):c=.nilFunc:=by cases h.2;rfl
def Rp.oQ(h:Rp M .oQ c):c=.nilIface:=by cases h.2;rfl
def Rp.iface{t:TypeId}{v:V}(h:Rp M (.iface t v) c):∃x,Rp M v x/\c=.iface t x:=by
 obtain⟨_,x,a,b,e⟩:=h;cases e;exact⟨x,⟨a,b⟩,rfl⟩
def Rp.func{fn:Fn}{a b:V}(h:Rp M (.func fn a b) c):∃g x y,Dt M fn g/\bY M a.list x/\bY M b.list y/\c=.func g x.toArray y.toArray:=by
 obtain⟨_,g,x,y,f,p,q,r,e⟩:=h;cases e;exact⟨g,x,y,f,bY.of p.1 q,bY.of p.2 r,rfl⟩
def Rp.agg{a:V}(h:Rp M (.agg a) c):∃x,bY M a.list x/\(∀y∈x,scalar y=true)/\c=.agg x.toArray:=by
 obtain⟨_,x,p,q,r,e⟩:=h;cases e;exact⟨x,bY.of p q,r,rfl⟩
def Rp.tuple{a:V}(h:Rp M (.tuple a) c):∃x,bY M a.list x/\c=.tuple x.toArray:=by
 obtain⟨_,x,p,q,e⟩:=h;cases e;exact⟨x,bY.of p q,rfl⟩
def zl(M:Mp)(b:Bool):Rp M (.bool b) (.bool b):=⟨rfl,rfl⟩
def gU(M:Mp)(k:IntKind)(n:Int):Rp M (.int k n) (.int k n):=⟨rfl,rfl⟩
def Ub{M:Mp}{s:List Nat}(h:∀b∈s,b<256):Rp M (.str s) (.string (bts s)):=⟨rfl,h,rfl⟩
def yL{M:Mp}{i:Pos}{L:Loc}(h:M i=some L)(o:Nat):Rp M (.ptr i o) (.pointer (some (L.at o))):=⟨rfl,L,h,rfl⟩
def iZ{M:Mp}{i:Pos}{L:Loc}(h:M i=some L){o n:Nat}{k:Cap}{m:Nat}(a:ahQ L o n k m):Rp M (.slice i o n k) (.slice (some (L.at o)) n m):=⟨rfl,L,m,h,a,rfl⟩
def lH(M:Mp):Rp M V.undef undef:=⟨rfl,[],rfl,rfl,rfl⟩
def aey{M:Mp}{vs:List V}{xs:List Value}(h:bY M vs xs)(a:∀y∈xs,scalar y=true):Rp M (.agg (V.ofList vs)) (.agg xs.toArray):=
 ⟨rfl,xs,V.oV vs,h.to,a,rfl⟩
def auv{M:Mp}{vs:List V}{xs:List Value}(h:bY M vs xs):Rp M (.tuple (V.ofList vs)) (.tuple xs.toArray):=
 ⟨rfl,xs,V.oV vs,h.to,rfl⟩
end
section
variable{α:Type}
def tY(v:V)(k:Pos->Nat->R α):R α:=match v with| .ptr i o=>k i o|_=>.bad
def asInt(v:V)(k:IntKind->Int->R α):R α:=match v with| .int a n=>k a n|_=>.bad
def lS(v:V)(k:Nat->R α):R α:=match v with| .int _ (.ofNat n)=>k n|_=>.bad
def asBool(v:V)(k:Bool->R α):R α:=match v with| .bool b=>k b|_=>.bad
def dR(h:Hp)(i:Pos)(k:Wr->List V->R α):R α:=match h.get i with|some o=>(match o with| .cells w cs=>k w cs| .bytes cs=>k .ro cs|_=>.bad)|none=>.bad
variable{r:α}{h':Hp}
def lQ{v:V}{k:Pos->Nat->R α}(e:tY v k=.ok r h'):∃i o,v=.ptr i o/\k i o=.ok r h':=by
 unfold tY at e;split at e
 ·exact⟨_,_,rfl,e⟩
 ·cases e
def FD{v:V}{k:IntKind->Int->R α}(e:asInt v k=.ok r h'):∃i o,v=.int i o/\k i o=.ok r h':=by
 unfold asInt at e;split at e
 ·exact⟨_,_,rfl,e⟩
 ·cases e
def pR{v:V}{k:Nat->R α}(e:lS v k=.ok r h'):∃i o,v=.int i (.ofNat o)/\k o=.ok r h':=by
 unfold lS at e;split at e
 ·exact⟨_,_,rfl,e⟩
 ·cases e
def arF{v:V}{k:Bool->R α}(e:asBool v k=.ok r h'):∃b,v=.bool b/\k b=.ok r h':=by
 unfold asBool at e;split at e
 ·exact⟨_,rfl,e⟩
 ·cases e
def gG{h:Hp}{i:Pos}{k:Wr->List V->R α}(e:dR h i k=.ok r h'):∃w cs,(h.get i).bind Ob.row=some (w,cs)/\k w cs=.ok r h':=by
 unfold dR at e;split at e
 ·rename_i o a;split at e
  ·exact⟨_,_,by rw[a];rfl,e⟩
  ·exact⟨_,_,by rw[a];rfl,e⟩
  ·cases e
 ·cases e
end
section
variable{α:Type}
def Good(P:Program)(G:Nat)(M:Mp)(h:Hp)(w:World)(s:Sem Value)(r:V)(h':Hp):Prop:=
 ∃c w' M',s.run P w=.ok c w'/\Rp M' r c/\Rel G M' h' w'/\Ext M h w M' h' w'
variable{P:Program}{G:Nat}{M:Mp}{h h':Hp}{w:World}{r:V}
def Good.same(a:Rel G M h w){s:Sem Value}{c:Value}(e:s.run P w=.ok c w)(b:Rp M r c):Good P G M h w s r h:=
 ⟨c,w,M,e,b,a,.refl a⟩
def aG(a:V)(h:Hp):R V:=tY a λi o=>dR h i λ_ cs=>match LK o cs with|some v=>.ok v h|none=>.bad
def cO(n:Nat)(a:V)(h:Hp):R V:=tY a λi o=>dR h i λ_ cs=>match gJ n (fG o cs) with|some l=>.ok (.agg (V.ofList l)) h|none=>.bad
def iq:V->Bool
 | .tuple _=>false
 |_=>true
def Wp(i:Pos)(o:Nat)(x:V)(h:Hp):R V:=match h.get i with
 |some b=>(match b with
  | .bytes cs=>(match jK o x.cells cs with|some a=>.ok V.undef (h.put i (some (.bytes a)))|none=>.bad)
  |_=>.bad)
 |none=>.bad
def aV(sz:Nat)(a x:V)(h:Hp):R V:=tY a λi o=>dR h i λwr cs=>
 match wr,iq x,e! x.cells.length sz with
 | .rw t f,true,true=>(match jK o x.cells cs with|some b=>.ok V.undef (h.put i (some (.cells (.rw t f) b)))|none=>.bad)
 | .ro,true,true=>Wp i o x h
 |_,_,_=>.bad
def eY(t:TypeId)(z:List V)(h:Hp):R V:=.ok (.ptr h.next 0) (h.new (.cells (.rw t true) z))
def eU(t:TypeId)(x:V)(h:Hp):R V:=match iq x with|true=>.ok (.ptr h.next 0) (h.new (.cells (.rw t true) x.cells))|false=>.bad
def Wi{t:TypeId}{d:TypeDesc}(ht:P.underlying t=some d):(isAgg t).run P w=.ok (match d with| .struct _| .array _ _=>true|_=>false) w:=by
 simp only[isAgg,u!,run_underlying ht,l!];cases d<;>rfl
def aGx{t:TypeId}{d:TypeDesc}(ht:P.underlying t=some d)(hd:(match d with| .struct _| .array _ _=>true|_=>false)=false){a:V}{c:Value}(f:Rel G M h w)(j:Rp M a c)(e:aG a h=.ok r h'):
  Good P G M h w (G! t c) r h':=by
 obtain⟨i,o,rfl,e⟩:=lQ e;obtain⟨wr,cs,hi,e⟩:=gG e;obtain⟨L,g,rfl⟩:=j.ptr;rw[oz]at e;split at e
 ·rename_i v k;cases e;obtain⟨x,l,b,_⟩:=f.cell hi g k;refine Good.same f (c:=x) ?_ b;simp only[G!,n!,loadVar,u!,c?,l!,Wi ht,hd];simp[run_load,l]
 ·cases e
def aGw{t:TypeId}{d:TypeDesc}{ti:TypeInfo}(ht:P.underlying t=some d)(hd:(match d with| .struct _| .array _ _=>true|_=>false)=true)(b:P.info? t=some ti){a:V}{c:Value}
  (k:Rel G M h w) (n:Rp M a c) (e:cO ti.size a h=.ok r h'):Good P G M h w (G! t c) r h':=by
 obtain⟨i,o,rfl,e⟩:=lQ e;obtain⟨wr,cs,hi,e⟩:=gG e;obtain⟨L,m,rfl⟩:=n.ptr;split at e
 ·rename_i l hl;cases e;obtain⟨xs,p,g,j,f⟩:=k.cells hi m hl;refine Good.same k (c:=.agg xs.toArray) ?_ (aey p j);have:=run_loadCells_list (P:=P) w (L.at o) xs f
  rw[g]at this;simp only[G!,n!,loadVar,u!,c?,l!,Wi ht,hd];simp[sizeOf,typeInfo,b,this]
 ·cases e
def BD{x:V}{c:Value}(e:Rp M x c)(hn:iq x=true):∀y∈c.cells.toList,scalar y=true:=by
 intro y d;cases x with
 |agg a=>
  obtain⟨xs,_,g,rfl⟩:=e.agg;exact g y (by simpa[c!]using d)
 |tuple a=>cases hn
 |nil=>cases e.1
 |cons a b=>cases e.1
 |bool b=>cases e.bool;simp[c!]at d;subst d;rfl
 |int k n=>cases e.int;simp[c!]at d;subst d;rfl
 |str s=>cases e.str.2;simp[c!]at d;subst d;rfl
 |ptr i o=>obtain⟨L,_,rfl⟩:=e.ptr;simp[c!]at d;subst d;rfl
 |cZ=>cases e.cZ;simp[c!]at d;subst d;rfl
 |slice i o n k=>obtain⟨L,m,_,_,rfl⟩:=e.slice;simp[c!]at d;subst d;rfl
 |aQ=>cases e.aQ;simp[c!]at d;subst d;rfl
 |emp=>obtain⟨a,k,rfl⟩:=e.emp;simp[c!]at d;subst d;rfl
 |map i=>obtain⟨L,_,rfl⟩:=e.map;simp[c!]at d;subst d;rfl
 |jM=>cases e.jM;simp[c!]at d;subst d;rfl
 |func f a b=>obtain⟨_,_,_,_,_,_,rfl⟩:=e.func;simp[c!]at d;subst d;rfl
 |fJ=>cases e.fJ;simp[c!]at d;subst d;rfl
 |iface t v=>obtain⟨_,_,rfl⟩:=e.iface;simp[c!]at d;subst d;rfl
 |oQ=>cases e.oQ;simp[c!]at d;subst d;rfl
def aF6{t:TypeId}{ti:TypeInfo}(l:P.info? t=some ti){a x:V}{c d:Value}(y:Rel G M h w)(B:Rp M a c)(m:Rp M x d)(e:aV ti.size a x h=.ok r h'):
  ∃w',(O! t c d).run P w=.ok () w'/\r=V.undef/\Rel G M h' w'/\Ext M h w M h' w':=by
 obtain⟨i,o,rfl,e⟩:=lQ e;obtain⟨wr,cs,hi,e⟩:=gG e;obtain⟨L,v,rfl⟩:=B.ptr;split at e
 ·rename_i D C j f;split at e
  ·rename_i n u;cases e;have g:=m.cells;obtain⟨w',p,q,s⟩:=y.store (P:=P) (qL hi) v u g (BD m j);refine⟨w',?_,rfl,q,s⟩;have k:d.cells.size=ti.size:=by
    have:=g.length;have z:=h! f;simp at this;omega
   simp[O!,n!,storeVar,sizeOf,typeInfo,l,k,p]
  ·cases e
 ·rename_i j f;unfold Wp at e;split at e
  ·rename_i b hb;split at e
   ·rename_i cs0;split at e
    ·rename_i n u;cases e;have g:=m.cells;obtain⟨w',p,q,s⟩:=y.aNy (P:=P) hb v u g (BD m j);refine⟨w',?_,rfl,q,s⟩;have k:d.cells.size=ti.size:=by
      have:=g.length;have z:=h! f;simp at this;omega
     simp[O!,n!,storeVar,sizeOf,typeInfo,l,k,p]
    ·cases e
   ·cases e
  ·cases e
 ·cases e
def Rel.row(m:Rel G M h w)(vs:List V)(c:Array Value)(el:TypeId)(fr:Nat×Nat)(o:bY M vs (c.toList.take vs.length))(n:∀y∈c.toList,scalar y=true)
  (l:∀k,k<=c.size->¬(fr.1<=k/\k<fr.2)) (full:Bool) (d:full=true->c.size=vs.length) {w':World} (j:w'.heap=w.heap.push (.cells c el fr)) (g:w'.os=w.os) (ht:w'.tape=w.tape) (f:w'.output=w.output):
  Rel G (M.add h.next ⟨w.heap.size,0,c.size⟩) (h.new (.cells (.rw el full) vs)) w'/\Ext M h w (M.add h.next ⟨w.heap.size,0,c.size⟩) (h.new (.cells (.rw el full) vs)) w':=by
 have b:∀(N:Mp),M.le N->∀(k:Nat) (v:V),vs[k]?=some v->∃x,c[0+k]?=some x/\Rp N v x/\scalar x=true:=by
  intro N e k v hk;obtain⟨x,a,i⟩:=o.get hk;rw[E!]at a;split at a
  ·exact⟨x,by simpa using a,i.mono e,n x (p! a)⟩
  ·cases a
 have:=m.new (.cells (.rw el full) vs) (.cells c el fr) c.size j g ht f (λN e=>⟨c,el,fr,by rw[j];simp,rfl,b N e,rfl,λk _ hk=>l k hk,λh=>⟨rfl,d h⟩⟩);exact⟨this.1,this.2.1⟩
def aOf{t:TypeId}{x:V}{c:Value}(d:Rel G M h w)(b:Rp M x c)(e:eU t x h=.ok r h'):Good P G M h w (k? t c) r h':=by
 unfold eU at e;split at e
 ·rename_i hn;cases e;have a:=b.cells;have hl:x.cells.length=c.cells.size:=by have:=a.length;simpa using this.symm
  have:=d.row (w':=w.alloc (.cells c.cells t)) x.cells c.cells t (0,0) (by rw[hl,<-Array.length_toList,List.take_length];exact a) (BD b hn) (by simp) true (λ_=>hl.symm) rfl rfl rfl rfl;refine⟨.pointer (some ⟨w.heap.size,0,none⟩),_,_,?_,?_,this.1,this.2⟩
  ·simp[k?,newVar,newRow]
  ·exact yL (M.fB _ _) 0
 ·cases e
end
def LU{a b:IntKind}(h:e! (kix a) (kix b)=true):a=b:=by
 have:=h! h;cases a<;>cases b<;>first|rfl|(simp[kix]at this)
def eG{α:Type}(m:Nat)(k:Nat->α):α:=J! (motive:=λ_=>α) (k 0) (λn _=>k (Nat.succ n)) m
def dF{α:Type}(m:Nat)(k:Nat->α):eG m k=k m:=by cases m<;>rfl
def iH(k:IntKind)(n:Int)(h:Hp):R V:=match n with
 | .ofNat m=>eG m λm=>.ok (.int k (.ofNat m)) h
 | .negSucc m=>eG m λm=>.ok (.int k (.negSucc m)) h
def gK(k:IntKind)(n:Int)(h:Hp):iH k n h=.ok (.int k n) h:=by
 cases n<;>simp[iH,dF]
def fH(b:Bool)(h:Hp):R V:=match b with
 |true=>.ok (.bool true) h
 |false=>.ok (.bool false) h
def fU(b:Bool)(h:Hp):fH b h=.ok (.bool b) h:=by cases b<;>rfl
def wrap64(n:Int):Int:=match n with
 | .ofNat m=>(match B! m 9223372036854775808 with|true=>.ofNat m|false=>w!.wrap (.ofNat m))
 | .negSucc m=>(match B! m 9223372036854775808 with|true=>.negSucc m|false=>w!.wrap (.negSucc m))
def xJ(k:IntKind)(n:Int):Int:=match k with
 | .i64=>wrap64 n
 |k=>k.wrap n
def wrap_in{n:Int}(a: -9223372036854775808<=n)(b:n<9223372036854775808):w!.wrap n=n:=by
 exact IntWalk.i64_in n ⟨a,by omega⟩
def aqU(n:Int):wrap64 n=w!.wrap n:=by
 cases n with
 |ofNat m=>
  simp only[wrap64];split
  ·rename_i hb;have:m<9223372036854775808:=by simpa[v!]using hb
   rw[wrap_in]<;>simp<;>omega
  ·rfl
 |negSucc m=>
  simp only[wrap64];split
  ·rename_i hb;have:m<9223372036854775808:=by simpa[v!]using hb
   rw[wrap_in]<;>omega
  ·rfl
def A7(k:IntKind)(n:Int):xJ k n=k.wrap n:=by
 cases k<;>simp[xJ,aqU]
def vU:Int->Int->Bool
 | .ofNat a,.ofNat b=>Nat.ble a b
 | .negSucc a,.negSucc b=>Nat.ble b a
 | .negSucc _,.ofNat _=>true
 | .ofNat _,.negSucc _=>false
def Bo(a b:Int):nR a b=(a==b):=by
 cases a<;>cases b<;>simp only[nR]
 ·rw[g!];simp[N!];omega
 ·rfl
 ·rfl
 ·rw[g!];simp[N!]
def Uu(a b:Int):vU a b=decide (a<=b):=by
 cases a<;>cases b<;>simp only[vU]<;>rw[g!]<;>simp[Nat.ble_eq]<;>omega
def kZ:List Nat->List Nat->Bool
 |_,[]=>false
 | [],_::_=>true
 |a::x,b::y=>(match B! a b with|true=>true|false=>(match e! a b with|true=>kZ x y|false=>false))
def Ia{a b:Nat}(c:a<256)(hb:b<256)(h:UInt8.ofNat a=UInt8.ofNat b):a=b:=by
 have:=congrArg UInt8.toNat h;simp at this;omega
def TT{a:Nat}(b:a<256):(UInt8.ofNat a).toNat=a:=by simp;omega
def amJ(s:List Nat):(bts s).toList=s.map UInt8.ofNat:=by
 simp[bts]
def lM(s:List Nat):(bts s).size=s.length:=by simp[bts,ByteArray.size]
def ZP:∀{s t:List Nat},(∀b∈s,b<256)->(∀b∈t,b<256)->kF s t=(s.map UInt8.ofNat==t.map UInt8.ofNat)
 | [],[],_,_=>rfl
 | [],b::y,_,_=>rfl
 |a::x,[],_,_=>rfl
 |a::x,b::y,g,ht=>by
  have i:=ZP (s:=x) (t:=y) (λc f=>g c (by simp[f])) (λc f=>ht c (by simp[f]));simp only[kF,Z!];have h:=g a (by simp);have hb:=ht b (by simp);show _=(UInt8.ofNat a==UInt8.ofNat b&&(x.map UInt8.ofNat==y.map UInt8.ofNat));cases d:e! a b with
  |true=>rw[h! d];simp[i]
  |false=>
   have:¬UInt8.ofNat a=UInt8.ofNat b:=λe=>o! d (Ia h hb e);simp[this]
def at7:∀{s t:List Nat},(∀b∈s,b<256)->(∀b∈t,b<256)->kZ s t=i? (s.map UInt8.ofNat) (t.map UInt8.ofNat)
 | [],[],_,_=>rfl
 | [],b::y,_,_=>rfl
 |a::x,[],_,_=>rfl
 |a::x,b::y,g,ht=>by
  have i:=at7 (s:=x) (t:=y) (λc d=>g c (by simp[d])) (λc d=>ht c (by simp[d]));have h:=g a (by simp);have hb:=ht b (by simp);simp only[kZ,Z!,i?,<-i];have f:decide (UInt8.ofNat a<UInt8.ofNat b)=B! a b:=by
   rw[g!];simp[UInt8.lt_iff_toNat_lt,v!];omega
  have heq:(UInt8.ofNat a==UInt8.ofNat b)=e! a b:=by
   rw[g!];simp only[beq_iff_eq,N!];exact⟨Ia h hb,λe=>by rw[e]⟩
  rw[f,heq];cases B! a b<;>cases e! a b<;>simp
inductive EqC where
 |none
 |bool
 |ptr (n:Nat)
 |slice
 |map
 |func
 |iface (lit:Bool)
 deriving Inhabited
def ag6(c:EqC)(x y:V)(k:Bool->R V):R V:=
 match c with
 | .bool=>(match x,y with| .bool a,.bool b=>k (match a,b with|true,true=>true|false,false=>true|_,_=>false)|_,_=>.bad)
 | .ptr n=>(match x with
  | .cZ=>(match y with| .cZ=>k true| .ptr _ _=>k false|_=>.bad)
  | .ptr i o=>(match y with| .cZ=>k false| .ptr j p=>(match e! n 0,i.eq j with|false,true=>k (e! o p)|_,_=>.bad)|_=>.bad)
  |_=>.bad)
 | .slice=>(match x,y with
  | .aQ,.aQ=>k true| .aQ,.slice _ _ _ _=>k false| .aQ,.emp=>k false| .slice _ _ _ _,.aQ=>k false| .emp,.aQ=>k false|_,_=>.bad)
 | .map=>(match x,y with| .jM,.jM=>k true| .jM,.map _=>k false| .map _,.jM=>k false|_,_=>.bad)
 | .func=>(match x,y with| .fJ,.fJ=>k true| .fJ,.func _ _ _=>k false| .func _ _ _,.fJ=>k false|_,_=>.bad)
 | .iface l=>(match x,y with
  | .oQ,.oQ=>(match l with|true=>k true|false=>.bad)
  | .oQ,.iface _ _=>k false| .iface _ _,.oQ=>k false
  | .iface t _,.iface u _=>(match e! t u with|false=>k false|true=>.bad)
  |_,_=>.bad)
 | .none=>.bad
def ams(op:BinOp)(k:IntKind)(a b:Int)(h:Hp):R V:=
 match op with
 | .add=>iH k (xJ k (Int.add a b)) h
 | .sub=>iH k (xJ k (Int.sub a b)) h
 | .mul=>iH k (xJ k (Int.mul a b)) h
 | .quo=>(match nR b 0 with|true=>.bad|false=>iH k (xJ k (Int.tdiv a b)) h)
 | .rem=>(match nR b 0 with|true=>.bad|false=>iH k (Int.tmod a b) h)
 | .and=>iH k (k.wrap (d! k.bits a&&&d! k.bits b).toNat) h
 | .or=>iH k (k.wrap (d! k.bits a|||d! k.bits b).toNat) h
 | .xor=>iH k (k.wrap (d! k.bits a^^^d! k.bits b).toNat) h
 | .andNot=>iH k (k.wrap (d! k.bits a&&&~~~d! k.bits b).toNat) h
 | .eql=>fH (nR a b) h
 | .neq=>fH (not (nR a b)) h
 | .lss=>fH (not (vU b a)) h
 | .leq=>fH (vU a b) h
 | .gtr=>fH (not (vU a b)) h
 | .geq=>fH (vU b a) h
 |_=>.bad
def XR(op:BinOp)(k:IntKind)(a b:Int)(h:Hp):R V:=
 match b with
 | .ofNat n=>(match op with
  | .shl=>iH k (k.wrap (a*2^(min n k.bits))) h
  | .shr=>iH k (a.fdiv (2^(min n k.bits))) h
  |_=>.bad)
 |_=>.bad
def alX(op:BinOp)(s t:List Nat)(h:Hp):R V:=
 match op with
 | .add=>(match B! (s.length+t.length) 4611686018427387904 with|true=>.ok (.str (s++t)) h|false=>.bad)
 | .eql=>fH (kF s t) h
 | .neq=>fH (not (kF s t)) h
 | .lss=>fH (kZ s t) h
 | .leq=>fH (or (kZ s t) (kF s t)) h
 | .gtr=>fH (not (or (kZ s t) (kF s t))) h
 | .geq=>fH (not (kZ s t)) h
 |_=>.bad
def TA:BinOp->Bool
 | .shl| .shr=>true
 |_=>false
def aJ(op:BinOp)(c:EqC)(x y:V)(h:Hp):R V:=
 match x with
 | .int k a=>(match y with
  | .int d b=>(match TA op with
   |true=>XR op k a b h
   |false=>(match e! (kix k) (kix d) with|true=>ams op k a b h|false=>.bad))
  |_=>.bad)
 | .str s=>(match y with| .str t=>alX op s t h|_=>.bad)
 |x=>(match op with
  | .eql=>ag6 c x y λb=>fH b h
  | .neq=>ag6 c x y λb=>fH (not b) h
  |_=>.bad)
def ahu(d:TypeDesc)(sz:Nat)(lit:Bool):EqC:=match d with
 | .bool=>.bool
 | .pointer _=>.ptr sz
 | .slice _=>.slice
 | .map _ _=>.map
 | .func _ _ _=>.func
 | .interface a=>.iface (lit||a.isEmpty)
 |_=>.none
section
variable{P:Program}{G:Nat}{M:Mp}{h h':Hp}{w:World}{r:V}
def isC:Operand->Bool
 | .const _=>true
 |_=>false
def DF{op:BinOp}{t:TypeId}{f g:Operand}{a b:Value}(d:a≠ .nilIface\/b≠ .nilIface)(e:∀c,a≠ .agg c):(eqGuard op t f g a b).run P w=.ok () w:=by
 unfold eqGuard;cases op<;>first
  |rfl
  |(cases a<;>first
    |exact absurd rfl (e _)
    |rfl
    |(cases b<;>first|rfl|exact absurd d (by simp)))
def aGD{op:BinOp}(f:TA op=false){t:TypeId}{k:IntKind}{a b:Int}(j:Rel G M h w)(e:ams op k a b h=.ok r h'):
  Good P G M h w (binOp op t (.int k a) (.int k b)) r h':=by
 have fin:∀(v:Int) (s:Sem Value),s.run P w=.ok (.int k v) w->iH k v h=.ok r h'->Good P G M h w s r h':=by
  intro v s g e;rw[gK]at e;cases e;exact .same j g (gU M k v)
 have c:∀(v:Bool) (s:Sem Value),s.run P w=.ok (.bool v) w->fH v h=.ok r h'->Good P G M h w s r h':=by
  intro v s g e;rw[fU]at e;cases e;exact .same j g (zl M v)
 have i:∀x y:Int,(!vU y x)=decide (x<y):=by
  intro x y;rw[Uu,g!];simp
 cases op<;>simp only[TA]at f<;>simp only[ams,A7,Bo,i]at e<;>(try simp only[Uu]at e)
 case add=>exact fin _ _ (by simp[binOp,M!]) e
 case sub=>exact fin _ _ (by simp[binOp,M!];rfl) e
 case mul=>exact fin _ _ (by simp[binOp,M!]) e
 case quo=>
  split at e
  ·cases e
  ·rename_i hb;have d:b≠0:=by simpa using hb
   exact fin _ _ (by simp[binOp,Op.intDiv,d]) e
 case rem=>
  split at e
  ·cases e
  ·rename_i hb;have d:b≠0:=by simpa using hb
   exact fin _ _ (by simp[binOp,Op.intDiv,d]) e
 case and=>exact fin _ _ (by simp[binOp,H!]) e
 case or=>exact fin _ _ (by simp[binOp,H!]) e
 case xor=>exact fin _ _ (by simp[binOp,H!]) e
 case andNot=>exact fin _ _ (by simp[binOp,H!]) e
 case eql=>exact c _ _ (by simp[binOp,D!]) e
 case neq=>exact c _ _ (by simp[binOp,D!,bne]) e
 case lss=>exact c _ _ (by simp[binOp,D!]) e
 case leq=>exact c _ _ (by simp[binOp,D!]) e
 case gtr=>exact c _ _ (by simp[binOp,D!]) e
 case geq=>exact c _ _ (by simp[binOp,D!]) e
 all_goals cases e
def aBX{op:BinOp}(c:TA op=true){t:TypeId}{k f:IntKind}{a b:Int}(d:Rel G M h w)(e:XR op k a b h=.ok r h'):
  Good P G M h w (binOp op t (.int k a) (.int f b)) r h':=by
 cases b with
 |negSucc n=>cases e
 |ofNat n=>
  simp only[XR]at e;have hn:¬Int.ofNat n<0:=by simp
  cases op<;>simp only[TA,Bool.false_eq_true]at c<;>simp only[gK]at e<;>cases e
  ·exact .same d (by simp only[binOp,Op.shift,hn,if_false];rfl) (gU M k _)
  ·exact .same d (by simp only[binOp,Op.shift,hn,if_false];rfl) (gU M k _)
def aC1(s t:List Nat):bts s++bts t=bts (s++t):=by
 apply ByteArray.ext;simp[bts]
def aF5{op:BinOp}{t:TypeId}{s u:List Nat}(d:∀b∈s,b<256)(f:∀b∈u,b<256)(g:Rel G M h w)(e:alX op s u h=.ok r h'):
  Good P G M h w (binOp op t (.string (bts s)) (.string (bts u))) r h':=by
 have a:∀(v:Bool) (s:Sem Value),s.run P w=.ok (.bool v) w->fH v h=.ok r h'->Good P G M h w s r h':=by
  intro v s d e;rw[fU]at e;cases e;exact .same g d (zl M v)
 have e1:=ZP d f;have e2:=at7 d f;have b1:=amJ s;have b2:=amJ u;cases op<;>simp only[alX,e1,e2]at e
 case add=>
  split at e
  ·rename_i hl;cases e;have i:s.length+u.length<4611686018427387904:=by simpa[v!]using hl
   have hn:¬(((bts s).size+(bts u).size:Nat):Int)>w!.max:=by
    rw[lM,lM];simp only[IntKind.max,IntKind.signed,IntKind.bits,if_true];omega
   refine .same g (c:=.string (bts (s++u))) ?_ (Ub (λb hb=>?_))
   ·simp only[binOp,q!,hn,if_false,aC1];rfl
   ·rcases List.mem_append.1 hb with hb|hb
    ·exact d b hb
    ·exact f b hb
  ·cases e
 case eql=>exact a _ _ (by simp only[binOp,q!,b1,b2];rfl) e
 case neq=>exact a _ _ (by simp only[binOp,q!,b1,b2];rfl) e
 case lss=>exact a _ _ (by simp only[binOp,q!,b1,b2];rfl) e
 case leq=>exact a _ _ (by simp only[binOp,q!,b1,b2];rfl) e
 case gtr=>exact a _ _ (by simp only[binOp,q!,b1,b2];rfl) e
 case geq=>exact a _ _ (by simp only[binOp,q!,b1,b2];rfl) e
 all_goals cases e
def al9{t:TypeId}{c:Array (String×TypeId)}(hd:P.underlying t=some (.interface c)){op:BinOp}{a b:Operand}
  (hl:((isC a||isC b)||c.isEmpty)=true):(eqGuard op t a b .nilIface .nilIface).run P w=.ok () w:=by
 by_cases d:(isC a||isC b)=true
 ·unfold eqGuard;cases a<;>cases b<;>first
   |(simp[isC]at d;done)
   |(cases op<;>rfl)
 ·have f:c.isEmpty=true:=by
   cases f:c.isEmpty
   ·rw[f,Bool.or_false]at hl;exact absurd hl d
   ·rfl
  have g:∀n,(Q! (n+1) t .nilIface .nilIface).run P w=.ok false w:=λn=>by
   simp[Q!,run_underlying hd,f]
  have e:(Q! l? t .nilIface .nilIface).run P w=.ok false w:=by rw[show l?=9999+1 from rfl];exact g 9999
  clear g;unfold eqGuard;cases a<;>cases b<;>first
   |(exfalso;exact d rfl)
   |(cases op<;>first|rfl|simp[e])
set_option maxHeartbeats 2000000 in
def aug{d:TypeDesc}{t:TypeId}{sz:Nat}{I J:Operand}(hd:P.underlying t=some d)(C:∀e,d=.pointer e->∃ti,P.info? e=some ti/\ti.size=sz)
  {x y:V} {a b:Value} (l:Rp M x a) (g:Rp M y b) {k:Bool->R V} (e:ag6 (ahu d sz (isC I||isC J)) x y k=.ok r h'):
  ∃q,k q=.ok r h'/\(∀op,(eqGuard op t I J a b).run P w=.ok () w)/\(U! t a b).run P w=.ok q w/\(∀c,a≠ .agg c)/\
   (∀op z,(op=.eql->binOp op t a b=(do pure (.bool (<-U! t a b))))/\(op=.neq->z=0->binOp op t a b=(do pure (.bool (!(<-U! t a b)))))):=by
 have f:∀{a b:Value} {q:Bool},(∀n,(a! (n+1) t a b).run P w=.ok q w)->(U! t a b).run P w=.ok q w:=λh=>h 9999;have pl:∀{a b:Value},(a≠ .nilIface\/b≠ .nilIface)->(∀c,a≠ .agg c)->∀op,(eqGuard op t I J a b).run P w=.ok () w:=λQ S op=>DF Q S;cases d<;>simp only[ahu,ag6]at e
 case bool=>
  split at e
  ·cases l.bool;cases g.bool;rename_i p q;refine⟨_,e,pl (.inl (by simp)) (by simp),f (λn=>?_),by simp,λop z=>⟨λh=>by subst h;rfl,λh _=>by subst h;rfl⟩⟩;cases p<;>cases q<;>simp[a!,run_underlying hd]
  ·cases e
 case pointer el=>
  obtain⟨ti,D,E⟩:=C el rfl;split at e
  ·cases l.cZ;split at e
   ·cases g.cZ;exact⟨_,e,pl (.inl (by simp)) (by simp),f (λn=>by simp[a!,run_underlying hd]),by simp,λop z=>⟨λh=>by subst h;rfl,λh _=>by subst h;rfl⟩⟩
   ·obtain⟨L,O,rfl⟩:=g.ptr;exact⟨_,e,pl (.inl (by simp)) (by simp),f (λn=>by simp[a!,run_underlying hd]),by simp,λop z=>⟨λh=>by subst h;rfl,λh _=>by subst h;rfl⟩⟩
   ·cases e
  ·rename_i i o;obtain⟨L,O,rfl⟩:=l.ptr;split at e
   ·cases g.cZ;exact⟨_,e,pl (.inl (by simp)) (by simp),f (λn=>by simp[a!,run_underlying hd]),by simp,λop z=>⟨λh=>by subst h;rfl,λh _=>by subst h;rfl⟩⟩
   ·rename_i j p;obtain⟨K,N,rfl⟩:=g.ptr;split at e
    ·rename_i U u;have s:=Pos.eq_iff.1 u;subst s;rw[O]at N;cases N;have B:ti.size≠0:=by rw[E];exact o! U
     refine⟨_,e,pl (.inl (by simp)) (by simp),f (λn=>?_),by simp,λop z=>⟨λh=>by subst h;rfl,λh _=>by subst h;rfl⟩⟩;have hb:(({block:=L.blk,off:=L.off+o,spot:=none}:Addr)=={block:=L.blk,off:=L.off+p,spot:=none})=e! o p:=by
      rw[g!];simp[N!]
     simp[a!,run_underlying hd,sizeOf,typeInfo,D,B,sameAddr,Loc.at,hb]
    ·cases e
   ·cases e
  ·cases e
 case slice el=>
  split at e
  ·cases l.aQ;cases g.aQ;exact⟨_,e,pl (.inl (by simp)) (by simp),f (λn=>by simp[a!,run_underlying hd]),by simp,λop z=>⟨λh=>by subst h;rfl,λh _=>by subst h;rfl⟩⟩
  ·cases l.aQ;obtain⟨L,m,_,_,rfl⟩:=g.slice;exact⟨_,e,pl (.inl (by simp)) (by simp),f (λn=>by simp[a!,run_underlying hd]),by simp,λop z=>⟨λh=>by subst h;rfl,λh _=>by subst h;rfl⟩⟩
  ·cases l.aQ;obtain⟨L,m,rfl⟩:=g.emp;exact⟨_,e,pl (.inl (by simp)) (by simp),f (λn=>by simp[a!,run_underlying hd]),by simp,λop z=>⟨λh=>by subst h;rfl,λh _=>by subst h;rfl⟩⟩
  ·cases g.aQ;obtain⟨L,m,_,_,rfl⟩:=l.slice;exact⟨_,e,pl (.inl (by simp)) (by simp),f (λn=>by simp[a!,run_underlying hd]),by simp,λop z=>⟨λh=>by subst h;rfl,λh _=>by subst h;rfl⟩⟩
  ·cases g.aQ;obtain⟨L,m,rfl⟩:=l.emp;exact⟨_,e,pl (.inl (by simp)) (by simp),f (λn=>by simp[a!,run_underlying hd]),by simp,λop z=>⟨λh=>by subst h;rfl,λh _=>by subst h;rfl⟩⟩
  ·cases e
 case map X W=>
  split at e
  ·cases l.jM;cases g.jM;exact⟨_,e,pl (.inl (by simp)) (by simp),f (λn=>by simp[a!,run_underlying hd]),by simp,λop z=>⟨λh=>by subst h;rfl,λh _=>by subst h;rfl⟩⟩
  ·cases l.jM;obtain⟨L,_,rfl⟩:=g.map;exact⟨_,e,pl (.inl (by simp)) (by simp),f (λn=>by simp[a!,run_underlying hd]),by simp,λop z=>⟨λh=>by subst h;rfl,λh _=>by subst h;rfl⟩⟩
  ·cases g.jM;obtain⟨L,_,rfl⟩:=l.map;exact⟨_,e,pl (.inl (by simp)) (by simp),f (λn=>by simp[a!,run_underlying hd]),by simp,λop z=>⟨λh=>by subst h;rfl,λh _=>by subst h;rfl⟩⟩
  ·cases e
 case func ps Z v=>
  split at e
  ·cases l.fJ;cases g.fJ;exact⟨_,e,pl (.inl (by simp)) (by simp),f (λn=>by simp[a!,run_underlying hd]),by simp,λop z=>⟨λh=>by subst h;rfl,λh _=>by subst h;rfl⟩⟩
  ·cases l.fJ;obtain⟨_,_,_,_,_,_,rfl⟩:=g.func;exact⟨_,e,pl (.inl (by simp)) (by simp),f (λn=>by simp[a!,run_underlying hd]),by simp,λop z=>⟨λh=>by subst h;rfl,λh _=>by subst h;rfl⟩⟩
  ·cases g.fJ;obtain⟨_,_,_,_,_,_,rfl⟩:=l.func;exact⟨_,e,pl (.inl (by simp)) (by simp),f (λn=>by simp[a!,run_underlying hd]),by simp,λop z=>⟨λh=>by subst h;rfl,λh _=>by subst h;rfl⟩⟩
  ·cases e
 case interface Y=>
  split at e
  ·cases l.oQ;cases g.oQ;split at e
   ·rename_i hl;refine⟨_,e,λop=>?_,f (λn=>by simp[a!,run_underlying hd]),by simp,λop z=>⟨λh=>by subst h;rfl,λh _=>by subst h;rfl⟩⟩;exact al9 hd hl
   ·cases e
  ·cases l.oQ;obtain⟨_,_,rfl⟩:=g.iface;exact⟨_,e,pl (.inr (by simp)) (by simp),f (λn=>by simp[a!,run_underlying hd]),by simp,λop z=>⟨λh=>by subst h;rfl,λh _=>by subst h;rfl⟩⟩
  ·cases g.oQ;obtain⟨_,_,rfl⟩:=l.iface;exact⟨_,e,pl (.inl (by simp)) (by simp),f (λn=>by simp[a!,run_underlying hd]),by simp,λop z=>⟨λh=>by subst h;rfl,λh _=>by subst h;rfl⟩⟩
  ·obtain⟨_,_,rfl⟩:=l.iface;obtain⟨_,_,rfl⟩:=g.iface;split at e
   ·rename_i H;have:¬_=_:=o! H;exact⟨_,e,pl (.inl (by simp)) (by simp),f (λn=>by simp[a!,run_underlying hd,this]),by simp,λop z=>⟨λh=>by subst h;rfl,λh _=>by subst h;rfl⟩⟩
   ·cases e
  ·cases e
 all_goals cases e
def aOg{op:BinOp}{t:TypeId}{d:TypeDesc}{sz:Nat}{m n:Operand}(hd:P.underlying t=some d)(j:∀e,d=.pointer e->∃ti,P.info? e=some ti/\ti.size=sz)
  {x y:V} {a b:Value} (i:Rel G M h w) (k:Rp M x a) (l:Rp M y b) (e:aJ op (ahu d sz (isC m||isC n)) x y h=.ok r h'):
  Good P G M h w (do eqGuard op t m n a b;binOp op t a b) r h':=by
 have f:∀{s:Sem Value},(eqGuard op t m n a b).run P w=.ok () w->Good P G M h w s r h'->Good P G M h w (do eqGuard op t m n a b;s) r h':=by
  rintro s g ⟨c,w',M',u,v⟩;exact⟨c,w',M',by simp[g,u],v⟩
 unfold aJ at e;split at e
 ·cases k.int;split at e
  ·cases l.int;refine f (DF (.inl (by simp)) (by simp)) ?_;split at e
   ·rename_i p;exact aBX p i e
   ·rename_i p;split at e
    ·rename_i hk;cases LU hk;exact aGD p i e
    ·cases e
  ·cases e
 ·cases k.str.2;split at e
  ·cases l.str.2;refine f (DF (.inl (by simp)) (by simp)) ?_;exact aF5 k.str.1 l.str.1 i e
  ·cases e
 ·split at e
  ·obtain⟨q,e,g,o,_,hb⟩:=aug (w:=w) hd j k l e;rw[fU]at e;cases e;refine f (g _) (.same i ?_ (zl M q));rw[(hb .eql 0).1 rfl];simp[o]
  ·obtain⟨q,e,g,o,_,hb⟩:=aug (w:=w) hd j k l e;rw[fU]at e;cases e;refine f (g _) (.same i ?_ (zl M _));rw[(hb .neq 0).2 rfl rfl];simp[o]
  ·cases e
def atz(c a b:V)(h:Hp):R V:=asBool c λq=>match q with|true=>.ok a h|false=>.ok b h
def aS(x:V)(h:Hp):R V:=match x with
 | .cZ| .oQ| .fJ=>.bad
 | .func fn a b=>(match fn with| .method _=>.bad|_=>.ok (.func fn a b) h)
 |x=>.ok x h
def aCk(n:Nat)(l:V):Option V:=
 J! (motive:=λ_=>V->Option V) (λl=>match l with| .cons a _=>some a|_=>none) (λ_ b l=>match l with| .cons _ t=>b t|_=>none) n l
def azB(n:Nat):∀l:V,aCk n l=l.list[n]?:=by
 induction n with
 |zero=>intro l;cases l<;>rfl
 |succ n a=>intro l;cases l<;>first|exact a _|rfl
def bJ(n:Nat)(x:V)(h:Hp):R V:=match x with
 | .tuple l=>(match aCk n l with|some v=>.ok v h|none=>.bad)
 |_=>.bad
def oUn(op:UnOp)(x:V)(h:Hp):R V:=match op with
 | .neg=>asInt x λk n=>iH k (xJ k (Int.sub 0 n)) h
 | .xor=>asInt x λk n=>iH k (k.wrap (d! k.bits (if k.signed then -1 else k.max)^^^d! k.bits n).toNat) h
 | .not=>asBool x λb=>fH (not b) h
 | .plus=>.bad
def jk(k:IntKind)(x:V)(h:Hp):R V:=asInt x λ_ n=>iH k (xJ k n) h
def Ul(x:V)(h:Hp):R V:=match x with| .str s=>.ok (.str s) h|_=>.bad
def auW(t:TypeId)(x:V)(h:Hp):R V:=.ok (.iface t x) h
def dZ(fn:Fn)(f c:List V)(h:Hp):R V:=match ao6 fn with|true=>.ok (.func fn (V.ofList f) (V.ofList c)) h|false=>.bad
def aF(off:Nat)(x:V)(h:Hp):R V:=tY x λi o=>eG (o+off) λq=>.ok (.ptr i q) h
def bD(sz:Nat)(x i:V)(h:Hp):R V:=lS i λk=>match x with
 | .slice i o n _=>(match B! k n with|true=>eG (o+k*sz) λq=>.ok (.ptr i q) h|false=>.bad)
 |_=>.bad
def aCg(len sz:Nat)(x i:V)(h:Hp):R V:=lS i λk=>tY x λi o=>
 match B! k len with|true=>eG (o+k*sz) λq=>.ok (.ptr i q) h|false=>.bad
def aGo(n:Nat)(l:List Nat):Option Nat:=
 J! (motive:=λ_=>List Nat->Option Nat) (λl=>k! l none (λa _=>some a)) (λ_ b l=>k! l none (λ_ t=>b t)) n l
def azA(n:Nat):∀l:List Nat,aGo n l=l[n]?:=by
 induction n with
 |zero=>intro l;cases l<;>rfl
 |succ n b=>intro l;cases l with
  |nil=>rfl
  |cons a t=>exact(b t).trans (by simp)
def mF(x i:V)(h:Hp):R V:=lS i λk=>match x with
 | .str s=>(match aGo k s with|some b=>.ok (.int .u8 (.ofNat b)) h|none=>.bad)
 |_=>.bad
def aCc(a:Bool)(sz off:Nat)(x:V)(h:Hp):R V:=match x with
 | .agg l=>(match a with
  |false=>(match aCk off l with|some v=>.ok v h|none=>.bad)
  |true=>(match gJ sz (fG off l.list) with|some vs=>.ok (.agg (V.ofList vs)) h|none=>.bad))
 |_=>.bad
def ax4{x:V}{a:Value}(j:Rp M x a)(e:aS x h=.ok r h'):r=x/\h'=h/\
  (∀ρ o op,o.op=.nilCheck op->ρ op=a->(execOp ρ o).run P w=.ok (.value a) w):=by
 have fin:∀{x:V} {a:Value},(R.ok x h:R V)=.ok r h'->(∀ρ o op,o.op=Op.nilCheck op->ρ op=a->(execOp ρ o).run P w=.ok (.value a) w)->
   r=x/\h'=h/\(∀ρ o op,o.op=.nilCheck op->ρ op=a->(execOp ρ o).run P w=.ok (.value a) w):=by
  intro x a e hh;cases e;exact⟨rfl,rfl,hh⟩
 cases x with
 |cZ=>cases e
 |oQ=>cases e
 |fJ=>cases e
 |func fn p q=>
  obtain⟨g,_,_,u,_,_,rfl⟩:=j.func;cases fn with
  |method n=>cases e
  |yield k=>obtain⟨L,_,rfl⟩:=u;exact fin e (λ ρ o op d c=>by simp only[execOp,d,c];rfl)
  |func f=>obtain rfl:g=.func f:=u;exact fin e (λ ρ o op d c=>by simp only[execOp,d,c];rfl)
  |methodOf t n=>obtain rfl:g=.methodOf t n:=u;exact fin e (λ ρ o op d c=>by simp only[execOp,d,c];rfl)
  |via t y f b=>obtain rfl:g=.via t y f b:=u;exact fin e (λ ρ o op d c=>by simp only[execOp,d,c];rfl)
 |nil=>cases j.1
 |cons a b=>cases j.1
 |bool b=>cases j.bool;exact fin e (λ ρ o op d c=>by simp only[execOp,d,c];rfl)
 |int k n=>cases j.int;exact fin e (λ ρ o op d c=>by simp only[execOp,d,c];rfl)
 |str s=>cases j.str.2;exact fin e (λ ρ o op d c=>by simp only[execOp,d,c];rfl)
 |ptr i o=>obtain⟨L,_,rfl⟩:=j.ptr;exact fin e (λ ρ o op d c=>by simp only[execOp,d,c];rfl)
 |slice i o n k=>obtain⟨L,m,_,_,rfl⟩:=j.slice;exact fin e (λ ρ o op d c=>by simp only[execOp,d,c];rfl)
 |aQ=>cases j.aQ;exact fin e (λ ρ o op d c=>by simp only[execOp,d,c];rfl)
 |emp=>obtain⟨_,_,rfl⟩:=j.emp;exact fin e (λ ρ o op d c=>by simp only[execOp,d,c];rfl)
 |map i=>obtain⟨L,_,rfl⟩:=j.map;exact fin e (λ ρ o op d c=>by simp only[execOp,d,c];rfl)
 |jM=>cases j.jM;exact fin e (λ ρ o op d c=>by simp only[execOp,d,c];rfl)
 |iface t v=>obtain⟨_,_,rfl⟩:=j.iface;exact fin e (λ ρ o op d c=>by simp only[execOp,d,c];rfl)
 |agg l=>obtain⟨_,_,_,rfl⟩:=j.agg;exact fin e (λ ρ o op d c=>by simp only[execOp,d,c];rfl)
 |tuple l=>obtain⟨_,_,rfl⟩:=j.tuple;exact fin e (λ ρ o op d c=>by simp only[execOp,d,c];rfl)
def aCG{n:Nat}{x:V}{a:Value}(f:Rel G M h w)(g:Rp M x a)(e:bJ n x h=.ok r h'):Good P G M h w (Y! a n) r h':=by
 unfold bJ at e;split at e
 ·obtain⟨l,hl,rfl⟩:=g.tuple;split at e
  ·rename_i v d;cases e;rw[azB]at d;obtain⟨y,i,b⟩:=hl.get d;exact .same f (c:=y) (by simp[Y!,i]) b
  ·cases e
 ·cases e
def aPD{op:UnOp}{x:V}{a:Value}(c:Rel G M h w)(d:Rp M x a)(e:oUn op x h=.ok r h'):Good P G M h w (T! op a) r h':=by
 cases op
 case neg=>
  obtain⟨k,n,rfl,e1⟩:=FD e;cases d.int;rw[gK,A7]at e1;cases e1;exact .same c (by simp[T!,M!,show Int.sub 0 n=0 - n from rfl]) (gU M k _)
 case xor=>
  obtain⟨k,n,rfl,e1⟩:=FD e;cases d.int;rw[gK]at e1;cases e1;exact .same c (by simp[T!,H!]) (gU M k _)
 case not=>
  obtain⟨b,rfl,e1⟩:=arF e;cases d.bool;rw[fU]at e1;cases e1;exact .same c (by simp[T!]) (zl M _)
 case plus=>cases e
def aCS{s d:TypeId}{ds:TypeDesc}{k:IntKind}(c:P.underlying s=some ds)(hd:P.underlying d=some (.int k)){x:V}{a:Value}(b:Rel G M h w)(f:Rp M x a)(e:jk k x h=.ok r h'):
  Good P G M h w (convert s d a) r h':=by
 obtain⟨g,n,rfl,e1⟩:=FD e;cases f.int;rw[gK,A7]at e1;cases e1;exact .same b (by simp[convert,run_underlying c,run_underlying hd,Conv.intToInt]) (gU M k _)
def aCR{s d:TypeId}{ds:TypeDesc}(g:P.underlying s=some ds)(hd:P.underlying d=some .string){x:V}{a:Value}(f:Rel G M h w)(b:Rp M x a)(e:Ul x h=.ok r h'):
  Good P G M h w (convert s d a) r h':=by
 unfold Ul at e;split at e
 ·cases b.str.2;cases e;refine .same f (c:=.string (bts _)) ?_ b;simp only[convert,u!,run_underlying g,run_underlying hd,l!];cases ds<;>rfl
 ·cases e
def aGG{t:TypeId}{d:TypeDesc}(hd:P.underlying t=some d)(b:∀i,d≠ .interface i){x:V}{a:Value}(g:Rel G M h w)(f:Rp M x a)(e:auW t x h=.ok r h'):
  Good P G M h w (S! t a) r h':=by
 cases e;refine .same g (c:=.iface t a) ?_ ⟨rfl,a,f.1,f.2,rfl⟩;simp only[S!,u!,run_underlying hd,l!];cases d<;>first|rfl|exact absurd rfl (b _)
def aJo{fn:Fn}{f c:List V}{x y:List Value}(g:Rel G M h w)(b:bY M f x)(a:bY M c y)(e:dZ fn f c h=.ok r h'):
  Good P G M h w (Instr.makeFunc fn x.toArray y.toArray) r h':=by
 unfold dZ at e;split at e
 ·rename_i d;cases e;exact .same g (c:=.func fn x.toArray y.toArray) rfl ⟨rfl,fn,x,y,.plain M d,⟨V.oV f,V.oV c⟩,b.to,a.to,rfl⟩
 ·cases e
def Loc.IA(L:Loc)(o n:Nat):(L.at o).add n=L.at (o+n):=by
 unfold Loc.at Addr.add;split
 ·simp_all
 ·simp[a?]
def avz{t:TypeId}{d:Array Field}{n:Nat}{f:Field}{ti:TypeInfo}(ht:P.underlying t=some (.struct d))(j:d[n]?=some f)(b:P.info? f.type=some ti)(m:ti.size≠0)
  {x:V} {a:Value} (k:Rel G M h w) (l:Rp M x a) (e:aF f.offset x h=.ok r h'):Good P G M h w (X! t a n) r h':=by
 obtain⟨i,o,rfl,e1⟩:=lQ e;obtain⟨L,g,rfl⟩:=l.ptr;rw[dF]at e1;cases e1;refine .same k (c:=.pointer (some (L.at (o+f.offset)))) ?_ (yL g _);simp[X!,run_underlying ht,j,n!,fieldPlace,sizeOf,typeInfo,b,m,Loc.IA]
def aJj{t el:TypeId}{ti:TypeInfo}(ht:P.underlying t=some (.slice el))(g:P.info? el=some ti){x i:V}{a b:Value}(l:Rel G M h w)(p:Rp M x a)(hi:Rp M i b)(e:bD ti.size x i h=.ok r h'):
  Good P G M h w (C! t a b) r h':=by
 obtain⟨k,n,rfl,e1⟩:=pR e;clear e;cases hi.int;have e:=e1;clear e1;split at e
 ·rename_i i o len cap;obtain⟨L,m,j,_,rfl⟩:=p.slice;split at e
  ·rename_i f;rw[dF]at e;cases e;have d:n<len:=by simpa[v!]using f
   refine .same l (c:=.pointer (some (L.at (o+n*ti.size)))) ?_ (yL j _);simp[C!,asIntOf,run_underlying ht,d,sizeOf,typeInfo,g,Loc.IA]
  ·cases e
 ·cases e
def aJl{t el:TypeId}{len:Nat}{ti:TypeInfo}(ht:P.underlying t=some (.array len el))(g:P.info? el=some ti){x i:V}{a b:Value}(l:Rel G M h w)(m:Rp M x a)(hi:Rp M i b)(e:aCg len ti.size x i h=.ok r h'):
  Good P G M h w (C! t a b) r h':=by
 obtain⟨k,n,rfl,e1⟩:=pR e;clear e;cases hi.int;obtain⟨i,o,rfl,e⟩:=lQ e1;clear e1;obtain⟨L,j,rfl⟩:=m.ptr;split at e
 ·rename_i f;rw[dF]at e;cases e;have d:n<len:=by simpa[v!]using f
  refine .same l (c:=.pointer (some (L.at (o+n*ti.size)))) ?_ (yL j _);simp[C!,asIntOf,run_underlying ht,n!,d,sizeOf,typeInfo,g,Loc.IA]
 ·cases e
def aEe{t:TypeId}(ht:P.underlying t=some .string){x i:V}{a b:Value}(l:Rel G M h w)(o:Rp M x a)(hi:Rp M i b)(e:mF x i h=.ok r h'):
  Good P G M h w (b? t a b) r h':=by
 obtain⟨k,n,rfl,e1⟩:=pR e;clear e;cases hi.int;have e:=e1;clear e1;split at e
 ·rename_i s;obtain⟨m,rfl⟩:=o.str;split at e
  ·rename_i c d;cases e;rw[azA]at d;have hb:(bts s)[n]?=some (UInt8.ofNat c):=by
    have g:n<s.length:=(r!.1 d).1;have:(bts s).data[n]?=some (UInt8.ofNat c):=by simp[bts,d]
    rw[getElem?_pos (bts s) n (by rw[lM];exact g)];have j:=(b!.1 this).2;exact congrArg some j
   have f:=TT (m c (p! d));refine .same l (c:=.int .u8 (.ofNat c)) ?_ (gU M _ _);simp[b?,asIntOf,run_underlying ht,hb,f]
  ·cases e
 ·cases e
end
end Go.Vm
