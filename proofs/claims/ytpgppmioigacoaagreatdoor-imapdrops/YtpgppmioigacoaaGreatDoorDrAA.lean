/- Lemmas that the claim's last text uses. No conditions. -/
import Derived.Orders
import Derived.Laws.CopyRow
import Derived.Laws.IdiomCopy
import Derived.ArgAppend
import Derived.Laws.Append
import Derived.Below
import Derived.IntWalk
import Derived.Laws.Strings
import Derived.LaidEql
set_option linter.all false
open Go.Op renaming equalIn→a!,stringOp→q!,intCmp→D!,intBits→H!,intArith→M!,eqGuardIn→Q!,unary→T!,equal→U!,bytesLess→i?,maxDepth→l?
open Array renaming getElem?_eq_some_iff→b!,getElem?_setIfInBounds_self_of_lt→x!,getElem?_setIfInBounds_ne→I!,getElem?_modify→P!
open Go.Value renaming cells→c!
open BitVec renaming ofInt→d!
open Nat renaming beq→e!,eq_of_beq_eq_true→h!,le_refl→j!,ne_of_beq_eq_false→o!,blt_eq→v!,blt→B!,lt_of_lt_of_le→F!,rec→J!,le_trans→K!,beq_eq→N!,add_assoc→a?,sub_self→d?,add_zero→e?
open Bool renaming eq_iff_iff→g!
open Option renaming casesOn→i!
open List renaming casesOn→k!,mem_of_getElem?→p!,getElem?_eq_some_iff→r!,getElem?_eq_getElem→t!,getElem?_take→E!,getElem?_append→R!,getElem?_drop→V!,map_cons→Z!
open Go.Result renaming andThen_ok→l!
open Go.Instr renaming sureAddr→n!,indexAt→C!,loadAt→G!,storeAt→O!,makeInterface→S!,fieldAt→X!,extract→Y!,index→b?,box→k?
open Go.Sem renaming run_bind→u!,run_pure→c?
open Go.IntKind renaming i64→w!
open Go.World renaming setCells→y!,setCell→A!,cell?→L!,frozen?→W!
open Go.RowKit.Below renaming heap_setCell→z!
noncomputable section
namespace Go.Vm
inductive Pos where
 |h
 |o (p:Pos)
 |i (p:Pos)
 deriving Inhabited
end Go.Vm
namespace Go.Vm.Pos
def nat:Pos->Nat
 | .h=>0
 | .o p=>2*p.nat+1
 | .i p=>2*p.nat+2
def succ:Pos->Pos
 | .h=>.o .h
 | .o p=>.i p
 | .i p=>.o p.succ
theorem fA(p:Pos):p.succ.nat=p.nat+1:=by
 induction p with
 |h=>rfl
 |o p a=>simp[succ,nat]
 |i p a=>simp only[succ,nat,a];omega
theorem uK{p q:Pos}(h:p.nat=q.nat):p=q:=by
 induction p generalizing q with
 |h=>cases q<;>simp[nat]at h⊢
 |o p a=>cases q with
  |h=>simp[nat]at h
  |o q=>rw[a (q:=q) (by simp[nat]at h;omega)]
  |i q=>simp[nat]at h;omega
 |i p a=>cases q with
  |h=>simp[nat]at h
  |o q=>simp[nat]at h;omega
  |i q=>rw[a (q:=q) (by simp[nat]at h;omega)]
def eq:Pos->Pos->Bool
 | .h,.h=>true
 | .o p,.o q=>p.eq q
 | .i p,.i q=>p.eq q
 |_,_=>false
theorem eq_iff{p q:Pos}:p.eq q=true↔p=q:=by
 induction p generalizing q with
 |h=>cases q<;>simp[eq]
 |o p a=>cases q<;>simp[eq,a]
 |i p a=>cases q<;>simp[eq,a]
theorem eq_false{p q:Pos}:p.eq q=false↔p≠q:=by
 rw[<-Bool.not_eq_true,eq_iff]
instance:DecidableEq Pos:=λ_ _=>decidable_of_iff _ eq_iff
theorem eq_self(p:Pos):p.eq p=true:=eq_iff.2 rfl
def VR:Nat->Nat->Pos
 |0,_=>.h
 |_+1,0=>.h
 |f+1,n+1=>cond (e! (n % 2) 0) (.o (VR f (n / 2))) (.i (VR f (n / 2)))
def of(n:Nat):Pos:=VR n n
theorem axN(f n:Nat)(h:n<=f):(VR f n).nat=n:=by
 induction f generalizing n with
 |zero=>simp[VR,nat];omega
 |succ f a=>
  cases n with
  |zero=>rfl
  |succ n=>
   simp only[VR];cases hb:e! (n % 2) 0 with
   |true=>
    have:n % 2=0:=h! hb;simp only[cond_true,nat,a (n / 2) (by omega)];omega
   |false=>
    have:n % 2≠0:=o! hb;simp only[cond_false,nat,a (n / 2) (by omega)];omega
theorem gG(n:Nat):(of n).nat=n:=axN n n (j! n)
theorem acw{m n:Nat}(h:of m=of n):m=n:=by
 have:=congrArg nat h;rwa[gG,gG]at this
end Go.Vm.Pos
namespace Go.Vm
inductive T (α:Type) where
 |nil
 |node (v:Option α) (l r:T α)
 deriving Inhabited
end Go.Vm
namespace Go.Vm.T
section
variable{α:Type}
def val(t:T α):Option α:=T.casesOn t none (λv _ _=>v)
def left(t:T α):T α:=T.casesOn t .nil (λ_ l _=>l)
def right(t:T α):T α:=T.casesOn t .nil (λ_ _ r=>r)
def get(t:T α)(p:Pos):Option α:=
 Pos.rec (motive:=λ_=>T α->Option α) (λt=>T.casesOn t none (λv _ _=>v))
  (λ_ a t=>T.casesOn t none (λ_ l _=>a l)) (λ_ a t=>T.casesOn t none (λ_ _ r=>a r)) p t
def set(x:Option α)(p:Pos)(t:T α):T α:=
 Pos.rec (motive:=λ_=>T α->T α)
  (λt=>T.casesOn t (.node x .nil .nil) (λ_ l r=>.node x l r))
  (λ_ a t=>T.casesOn t (.node none (a .nil) .nil) (λv l r=>.node v (a l) r))
  (λ_ a t=>T.casesOn t (.node none .nil (a .nil)) (λv l r=>.node v l (a r))) p t
theorem get_nil(p:Pos):(T.nil:T α).get p=none:=by cases p<;>rfl
theorem nR(x:Option α)(p:Pos)(t:T α):(t.set x p).get p=x:=by
 induction p generalizing t with
 |h=>cases t<;>rfl
 |o p a=>cases t with
  |nil=>exact a .nil
  |node v l r=>exact a l
 |i p a=>cases t with
  |nil=>exact a .nil
  |node v l r=>exact a r
theorem rJ(x:Option α){p q:Pos}(a:q≠p)(t:T α):(t.set x p).get q=t.get q:=by
 induction p generalizing q t with
 |h=>cases q with
  |h=>exact absurd rfl a
  |o q=>cases t<;>first|rfl|exact get_nil q
  |i q=>cases t<;>first|rfl|exact get_nil q
 |o p c=>cases q with
  |h=>cases t<;>rfl
  |o q=>
   have b:q≠p:=λe=>a (by rw[e]);cases t with
   |nil=>exact(c b .nil).trans (get_nil q)
   |node v l r=>exact c b l
  |i q=>cases t<;>first|rfl|exact get_nil q
 |i p c=>cases q with
  |h=>cases t<;>rfl
  |o q=>cases t<;>first|rfl|exact get_nil q
  |i q=>
   have b:q≠p:=λe=>a (by rw[e]);cases t with
   |nil=>exact(c b .nil).trans (get_nil q)
   |node v l r=>exact c b r
end
end Go.Vm.T
namespace Go.Vm
inductive Cap where
 |kn (c:Nat)
 |un (sz:Nat)
 deriving Inhabited
inductive V where
 |bool (b:Bool)
 |int (k:IntKind) (n:Int)
 |str (s:List Nat)
 |ptr (i:Pos) (o:Nat)
 |bP
 |slice (i:Pos) (o len:Nat) (cap:Cap)
 |aQ
 |emp
 |map (i:Pos)
 |jG
 |func (fn:Fn) (first captured:V)
 |fV
 |iface (t:TypeId) (v:V)
 |nP
 |agg (l:V)
 |tuple (l:V)
 |nil
 |cons (a b:V)
 deriving Inhabited
def V.undef:V:=.tuple .nil
def V.list:V->List V
 | .cons a b=>a::b.list
 |_=> []
def V.ofList:List V->V
 | []=>.nil
 |a::l=>.cons a (V.ofList l)
def V.isRow:V->Bool
 | .nil| .cons _ _=>true
 |_=>false
theorem V.dD(l:List V):(V.ofList l).list=l:=by induction l<;>simp[V.ofList,V.list, *]
def V.cells:V->List V
 | .agg l=>l.list
 |v=> [v]
inductive Wr where
 |ro
 |rw (t:TypeId) (full:Bool)
def Wr.own:Wr->Bool
 | .ro=>false
 | .rw _ _=>true
inductive Ob where
 |cells (w:Wr) (cs:List V)
 |map (es:List (V×V))
 |iter (s:List Nat) (pos:Nat)
 |bytes (cs:List V)
def Ob.row:Ob->Option (Wr×List V)
 | .cells w cs=>some (w,cs)
 | .bytes cs=>some (.ro,cs)
 |_=>none
def Ob.own:Ob->Bool
 | .cells w _=>w.own
 |_=>true
structure Hp where
 t:T Ob
 next:Pos
noncomputable def Hp.get(h:Hp)(i:Pos):Option Ob:=h.t.get i
noncomputable def Hp.put(h:Hp)(i:Pos)(o:Option Ob):Hp:=⟨h.t.set o i,h.next⟩
noncomputable def Hp.new(h:Hp)(o:Ob):Hp:=⟨h.t.set (some o) h.next,h.next.succ⟩
inductive R (α:Type) where
 |ok (a:α) (h:Hp)
 |bad
structure Loc where
 blk:Nat
 off:Nat
 size:Nat
def Loc.at(L:Loc)(o:Nat):Addr:=⟨L.blk,L.off+o,none⟩
abbrev Mp:=Pos->Option Loc
def Mp.le(M N:Mp):Prop:=∀i L,M i=some L->N i=some L
theorem Mp.le_refl(M:Mp):M.le M:=λ_ _ h=>h
theorem Mp.le_trans{M N O:Mp}(h:M.le N)(g:N.le O):M.le O:=λi L e=>g i L (h i L e)
def bts(s:List Nat):ByteArray:=⟨(s.map UInt8.ofNat).toArray⟩
def scalar:Value->Bool
 | .agg _| .tuple _=>false
 |_=>true
def ae8(L:Loc)(o n:Nat):Cap->Nat->Prop
 | .kn c,k=>k=c/\n<=c
 | .un sz,k=>(n<=k/\k<=9223372036854775807)/\L.off+o+k*sz=L.size
def Bh(M:Mp):Fn->Fn->Prop
 | .yield k,g=>∃L,M (Pos.of k)=some L/\g=.yield L.blk
 | .func f,g=>g=.func f
 | .method n,g=>g=.method n
 | .methodOf t n,g=>g=.methodOf t n
 | .via t p f b,g=>g=.via t p f b
theorem Bh.mono{M N:Mp}(c:M.le N){f g:Fn}(h:Bh M f g):Bh N f g:=by
 cases f<;>first|exact h|(obtain⟨L,a,b⟩:=h;exact⟨L,c _ _ a,b⟩)
def alQ:Fn->Bool
 | .yield _=>false
 | .func _=>true
 | .method _=>true
 | .methodOf _ _=>true
 | .via _ _ _ _=>true
theorem Bh.plain(M:Mp){f:Fn}(h:alQ f=true):Bh M f f:=by
 cases f<;>first|rfl|cases h
def Rep(M:Mp):V->List Value->Prop
 | .bool b,l=>l= [.bool b]
 | .int k n,l=>l= [.int k n]
 | .str s,l=>(∀b∈s,b<256)/\l= [.string (bts s)]
 | .ptr i o,l=>∃L,M i=some L/\l= [.pointer (some (L.at o))]
 | .bP,l=>l= [.pointer none]
 | .slice i o n c,l=>∃L k,M i=some L/\ae8 L o n c k/\l= [.slice (some (L.at o)) n k]
 | .aQ,l=>l= [.slice none 0 0]
 | .emp,l=>∃a k,l= [.slice (some a) 0 k]
 | .map i,l=>∃L,M i=some L/\l= [.map (some L.blk)]
 | .jG,l=>l= [.map none]
 | .func fn a b,l=>∃g x y,Bh M fn g/\(a.isRow=true/\b.isRow=true)/\Rep M a x/\Rep M b y/\l= [.func g x.toArray y.toArray]
 | .fV,l=>l= [.nilFunc]
 | .iface t v,l=>∃x,v.isRow=false/\Rep M v [x]/\l= [.iface t x]
 | .nP,l=>l= [.nilIface]
 | .agg a,l=>∃x,a.isRow=true/\Rep M a x/\(∀y∈x,scalar y=true)/\l= [.agg x.toArray]
 | .tuple a,l=>∃x,a.isRow=true/\Rep M a x/\l= [.tuple x.toArray]
 | .nil,l=>l= []
 | .cons a b,l=>∃x xs,a.isRow=false/\Rep M a [x]/\b.isRow=true/\Rep M b xs/\l=x::xs
theorem Rep.mono{M N:Mp}(d:M.le N){v:V}:∀{l:List Value},Rep M v l->Rep N v l:=by
 induction v with
 |ptr i o=>rintro l ⟨L,h,e⟩;exact⟨L,d _ _ h,e⟩
 |slice i o n c=>rintro l ⟨L,k,h,s,e⟩;exact⟨L,k,d _ _ h,s,e⟩
 |map i=>rintro l ⟨L,h,e⟩;exact⟨L,d _ _ h,e⟩
 |func fn a b j m=>rintro l ⟨f,x,y,q,p,h,g,e⟩;exact⟨f,x,y,q.mono d,p,j h,m g,e⟩
 |iface t v r=>rintro l ⟨x,p,h,e⟩;exact⟨x,p,r h,e⟩
 |agg a r=>rintro l ⟨x,p,h,e⟩;exact⟨x,p,r h,e⟩
 |tuple a r=>rintro l ⟨x,p,h,e⟩;exact⟨x,p,r h,e⟩
 |cons a b j m=>rintro l ⟨x,xs,q,h,p,g,e⟩;exact⟨x,xs,q,j h,p,m g,e⟩
 |_=>intro l h;exact h
def Rp(M:Mp)(v:V)(c:Value):Prop:=v.isRow=false/\Rep M v [c]
theorem Rp.mono{M N:Mp}(a:M.le N){v:V}{c:Value}(h:Rp M v c):Rp N v c:=⟨h.1,h.2.mono a⟩
def bU(M:Mp):List V->List Value->Prop
 | [],l=>l= []
 |v::vs,l=>∃x xs,Rp M v x/\bU M vs xs/\l=x::xs
theorem bU.mono{M N:Mp}(a:M.le N):∀{vs:List V} {l:List Value},bU M vs l->bU N vs l
 | [],_,h=>h
 |_::_,_,⟨x,xs,h,g,e⟩=>⟨x,xs,h.mono a,bU.mono a g,e⟩
theorem bU.length{M:Mp}:∀{vs:List V} {l:List Value},bU M vs l->l.length=vs.length
 | [],_,h=>by rw[show _= [] from h];rfl
 |_::_,_,⟨x,xs,_,g,e⟩=>by rw[e];simp[bU.length g]
theorem bU.get{M:Mp}:∀{vs:List V} {l:List Value} (_:bU M vs l) {k:Nat} {v:V},vs[k]?=some v->∃x,l[k]?=some x/\Rp M v x
 | [],_,_,k,v,h=>by simp at h
 |u::vs,_,⟨x,xs,a,g,e⟩,0,v,h=>by
  simp at h;subst h;subst e;exact⟨x,rfl,a⟩
 |u::vs,_,⟨x,xs,a,g,e⟩,k+1,v,h=>by
  subst e;simp at h⊢;exact bU.get g h
theorem bU.mk{M:Mp}:∀{vs:List V} {l:List Value},l.length=vs.length->(∀(k:Nat) (v:V),vs[k]?=some v->∃x,l[k]?=some x/\Rp M v x)->bU M vs l
 | [],l,h,_=>List.length_eq_zero_iff.1 (by simpa using h)
 |v::vs,[],h,_=>by simp at h
 |v::vs,x::l,h,g=>by
  refine⟨x,l,?_,bU.mk (by simpa using h) (λk u c=>?_),rfl⟩
  ·obtain⟨y,a,b⟩:=g 0 v rfl;simp at a;rw[a];exact b
  ·obtain⟨y,a,b⟩:=g (k+1) u (by simpa using c);exact⟨y,by simpa using a,b⟩
theorem bU.append{M:Mp}:∀{vs a:List V} {l k:List Value},bU M vs l->bU M a k->bU M (vs++a) (l++k)
 | [],_,_,_,h,g=>by rw[h];exact g
 |_::_,_,_,_,⟨x,xs,h,g,e⟩,b=>⟨x,_,h,bU.append g b,by rw[e];rfl⟩
theorem bU.of{M:Mp}:∀{v:V} {l:List Value},v.isRow=true->Rep M v l->bU M v.list l:=by
 intro v;induction v with
 |nil=>intro l _ h;exact h
 |cons a b _ c=>rintro l _ ⟨x,xs,q,h,p,g,e⟩;exact⟨x,xs,⟨q,h⟩,c p g,e⟩
 |_=>intro l p;cases p
theorem V.dO:∀l:List V,(V.ofList l).isRow=true
 | []=>rfl
 |_::_=>rfl
theorem bU.to{M:Mp}:∀{vs:List V} {l:List Value},bU M vs l->Rep M (V.ofList vs) l
 | [],_,h=>h
 |_::vs,_,⟨x,xs,h,g,e⟩=>⟨x,xs,h.1,h.2,V.dO vs,bU.to g,e⟩
theorem bU.drop{M:Mp}(n:Nat):∀{vs:List V} {l:List Value},bU M vs l->bU M (vs.drop n) (l.drop n):=by
 induction n with
 |zero=>intro vs l h;exact h
 |succ n a=>
  intro vs l h;cases vs with
  |nil=>rw[show l= [] from h];rfl
  |cons v vs=>obtain⟨x,xs,_,g,e⟩:=h;rw[e];exact a g
theorem bU.take{M:Mp}(n:Nat):∀{vs:List V} {l:List Value},bU M vs l->bU M (vs.take n) (l.take n):=by
 induction n with
 |zero=>intro vs l h;simp;rfl
 |succ n b=>
  intro vs l h;cases vs with
  |nil=>rw[show l= [] from h];rfl
  |cons v vs=>obtain⟨x,xs,a,g,e⟩:=h;rw[e];exact⟨x,_,a,b g,rfl⟩
theorem Rp.cells{M:Mp}{v:V}{c:Value}(h:Rp M v c):bU M v.cells c.cells.toList:=by
 obtain⟨d,h⟩:=h;have one:∀{v:V} {c:Value},v.isRow=false->Rep M v [c]->c.cells= #[c]->bU M [v] c.cells.toList:=
  λd h e=>⟨_,[],⟨d,h⟩,rfl,by rw[e]⟩
 cases v with
 |agg l=>
  obtain⟨x,p,g,_,e⟩:=h;cases e;simpa[V.cells,c!]using bU.of p g
 |nil=>cases d
 |cons a b=>cases d
 |bool b=>exact one d h (by cases h;rfl)
 |int k n=>exact one d h (by cases h;rfl)
 |str s=>exact one d h (by cases h.2;rfl)
 |ptr i o=>exact one d h (by obtain⟨_,_,e⟩:=h;cases e;rfl)
 |bP=>exact one d h (by cases h;rfl)
 |slice i o n k=>exact one d h (by obtain⟨_,_,_,_,e⟩:=h;cases e;rfl)
 |aQ=>exact one d h (by cases h;rfl)
 |emp=>exact one d h (by obtain⟨_,_,e⟩:=h;cases e;rfl)
 |map i=>exact one d h (by obtain⟨_,_,e⟩:=h;cases e;rfl)
 |jG=>exact one d h (by cases h;rfl)
 |func f a b=>exact one d h (by obtain⟨_,_,_,_,_,_,_,e⟩:=h;cases e;rfl)
 |fV=>exact one d h (by cases h;rfl)
 |iface t v=>exact one d h (by obtain⟨_,_,_,e⟩:=h;cases e;rfl)
 |nP=>exact one d h (by cases h;rfl)
 |tuple l=>exact one d h (by obtain⟨_,_,_,e⟩:=h;cases e;rfl)
def kix:IntKind->Nat
 | .i8=>0| .i16=>1| .i32=>2| .i64=>3| .u8=>4| .u16=>5| .u32=>6| .u64=>7
def mG:Int->Int->Bool
 | .ofNat a,.ofNat b=>e! a b
 | .negSucc a,.negSucc b=>e! a b
 |_,_=>false
def jW:List Nat->List Nat->Bool
 | [],[]=>true
 |a::x,b::y=>(match e! a b with|true=>jW x y|false=>false)
 |_,_=>false
def iI(x y:V):Option Bool:=match x with
 | .int k a=>(match y with| .int c b=>(match e! (kix k) (kix c) with|true=>some (mG a b)|false=>none)|_=>none)
 | .str s=>(match y with| .str t=>some (jW s t)|_=>none)
 | .bool a=>(match y with| .bool b=>some (match a,b with|true,true=>true|false,false=>true|_,_=>false)|_=>none)
 |_=>none
def gU(es:List (V×V)):Prop:=(es.map (·.1)).Pairwise λa b=>iI a b=some false
def jk(M:Mp):List (V×V)->List MapEntry->Prop
 | [],l=>l= []
 |p::ps,l=>∃e es,(Rp M p.1 e.key/\Rp M p.2 e.val)/\jk M ps es/\l=e::es
theorem jk.mono{M N:Mp}(a:M.le N):∀{ps:List (V×V)} {l:List MapEntry},jk M ps l->jk N ps l
 | [],_,h=>h
 |_::_,_,⟨e,es,h,g,x⟩=>⟨e,es,⟨h.1.mono a,h.2.mono a⟩,jk.mono a g,x⟩
theorem jk.length{M:Mp}:∀{ps:List (V×V)} {l:List MapEntry},jk M ps l->l.length=ps.length
 | [],_,h=>by rw[show _= [] from h];rfl
 |_::_,_,⟨e,es,_,g,x⟩=>by rw[x];simp[jk.length g]
def xq(M:Mp)(es:List (V×V))(en:Array MapEntry)(a:Nat):Prop:=
 (∃l,List.Perm l en.toList/\jk M es l)/\gU es/\(∀e∈en.toList,e.born<a)/\(en.toList.map (·.born)).Nodup
theorem xq.nil(M:Mp):xq M [] #[] 0:=⟨⟨[],by simp,rfl⟩,List.Pairwise.nil,by simp,by simp⟩
theorem xq.mono{M N:Mp}(f:M.le N){es:List (V×V)}{en:Array MapEntry}{g:Nat}(h:xq M es en g):xq N es en g:=
 let ⟨⟨l,a,b⟩,c,d,e⟩:=h
 ⟨⟨l,a,b.mono f⟩,c,d,e⟩
def aLd(L:Loc)(el:TypeId)(fr:Nat×Nat)(n:Nat):Wr->Prop
 | .ro=>True
 | .rw t full=>el=t/\(∀k,L.off<=k->k<=L.size->¬(fr.1<=k/\k<fr.2))/\(full=true->L.off=0/\L.size=n)
def jM(M:Mp)(L:Loc)(w:World):Ob->Prop
 | .cells wr cs=>∃c el fr,w.heap[L.blk]?=some (.cells c el fr)/\c.size=L.size/\
   (∀(k:Nat) (v:V),cs[k]?=some v->∃x,c[L.off+k]?=some x/\Rp M v x/\scalar x=true)/\
   aLd L el fr cs.length wr
 | .bytes cs=>∃c el fr,w.heap[L.blk]?=some (.cells c el fr)/\c.size=L.size/\
   (∀(k:Nat) (v:V),cs[k]?=some v->∃x,c[L.off+k]?=some x/\Rp M v x/\scalar x=true)/\
   (∀k,L.off<=k->k<L.size->¬(fr.1<=k/\k<fr.2))
 | .map es=>∃en a,w.heap[L.blk]?=some (.map en a)/\xq M es en a
 | .iter s pos=>(∀b∈s,b<256)/\w.heap[L.blk]?=some (.stringIter (bts s) pos)
theorem jM.mono{M N:Mp}(d:M.le N){L:Loc}{w:World}{o:Ob}(h:jM M L w o):jM N L w o:=by
 cases o with
 |cells wr cs=>
  obtain⟨c,el,fr,a,b,g,f⟩:=h;exact⟨c,el,fr,a,b,λk v e=>let ⟨x,p,q,r⟩:=g k v e;⟨x,p,q.mono d,r⟩,f⟩
 |map es=>
  obtain⟨en,i,a,b⟩:=h;exact⟨en,i,a,b.mono d⟩
 |iter s pos=>exact h
 |bytes cs=>
  obtain⟨c,el,fr,a,b,g,f⟩:=h;exact⟨c,el,fr,a,b,λk v e=>let ⟨x,p,q,r⟩:=g k v e;⟨x,p,q.mono d,r⟩,f⟩
theorem jM.of_block{M:Mp}{L:Loc}{w w':World}{o:Ob}(h:jM M L w o)(hb:w'.heap[L.blk]?=w.heap[L.blk]?):jM M L w' o:=by
 cases o<;>simpa only[jM,hb]using h
theorem jM.lt{M:Mp}{L:Loc}{w:World}{o:Ob}(h:jM M L w o):L.blk<w.heap.size:=by
 cases o with
 |cells wr cs=>obtain⟨c,el,fr,a,_⟩:=h;exact(b!.1 a).1
 |map es=>obtain⟨en,b,a,_⟩:=h;exact(b!.1 a).1
 |iter s pos=>exact(b!.1 h.2).1
 |bytes cs=>obtain⟨c,el,fr,a,_⟩:=h;exact(b!.1 a).1
structure Rel (G:Nat) (M:Mp) (h:Hp) (w:World):Prop where
 ob:∀i o,h.get i=some o->∃L,M i=some L/\jM M L w o
 fresh:∀i,h.next.nat<=i.nat->M i=none
 sep:∀i j o p L K,i≠j->h.get i=some o->h.get j=some p->o.own=true->M i=some L->M j=some K->L.blk≠K.blk
 gl:∀g,g<G->∃n,M (Pos.of g)=some ⟨g,0,n⟩
structure Ext (M:Mp) (h:Hp) (w:World) (M':Mp) (h':Hp) (w':World):Prop where
 le:M.le M'
 next:h.next.nat<=h'.next.nat
 os:w'.os=w.os
 tape:w'.tape=w.tape
 output:w'.output=w.output
 size:w.heap.size<=w'.heap.size
 same:∀b,b<w.heap.size->(∀i o L,h.get i=some o->o.own=true->M i=some L->L.blk≠b)->w'.heap[b]?=w.heap[b]?
 own:∀i o L,h'.get i=some o->o.own=true->M' i=some L->w.heap.size<=L.blk\/∃j p K,h.get j=some p/\p.own=true/\M j=some K/\K.blk=L.blk
 old:∀i,i.nat<h.next.nat->h.get i=none->h'.get i=none
 all:∀i o L,h'.get i=some o->M' i=some L->w.heap.size<=L.blk\/∃j p K,h.get j=some p/\M j=some K/\K.blk=L.blk
 none:∀i,i.nat<h.next.nat->M i=none->M' i=none
theorem Ext.refl{G:Nat}{M:Mp}{h:Hp}{w:World}(_:Rel G M h w):Ext M h w M h w:=
 ⟨M.le_refl,j! _,rfl,rfl,rfl,j! _,λ_ _ _=>rfl,λi o L a b c=>.inr ⟨i,o,L,a,b,c,rfl⟩,λ_ _ h=>h,λi o L a b=>.inr ⟨i,o,L,a,b,rfl⟩,λ_ _ h=>h⟩
theorem Ext.trans{M N O:Mp}{h g f:Hp}{w x y:World}(a:Ext M h w N g x)(b:Ext N g x O f y):Ext M h w O f y where
 le:=Mp.le_trans a.le b.le
 next:=K! a.next b.next
 os:=b.os.trans a.os
 tape:=b.tape.trans a.tape
 output:=b.output.trans a.output
 size:=K! a.size b.size
 same k C s:=by
  rw[b.same k (F! C a.size) (λi o L hi u q e=>?_),a.same k C s];rcases a.own i o L hi u q with l|⟨j,p,K,r,v,n,m⟩
  ·omega
  ·exact s j p K r v n (m.trans e)
 own i o L hi u q:=by
  rcases b.own i o L hi u q with l|⟨j,p,K,r,v,n,e⟩
  ·exact .inl (K! a.size l)
  ·rcases a.own j p K r v n with l|⟨j',B,K',d,z,c,m⟩
   ·exact .inl (by omega)
   ·exact .inr ⟨j',B,K',d,z,c,m.trans e⟩
 old i hi t:=b.old i (F! hi a.next) (a.old i hi t)
 all i o L hi q:=by
  rcases b.all i o L hi q with l|⟨j,p,K,r,n,e⟩
  ·exact .inl (K! a.size l)
  ·rcases a.all j p K r n with l|⟨j',B,K',d,c,m⟩
   ·exact .inl (by omega)
   ·exact .inr ⟨j',B,K',d,c,m.trans e⟩
 none i hi t:=b.none i (F! hi a.next) (a.none i hi t)
theorem Rel.heap{G:Nat}{M:Mp}{h:Hp}{w w':World}(r:Rel G M h w)(e:w'.heap=w.heap):Rel G M h w':=
 ⟨λi o hi=>let ⟨L,a,b⟩:=r.ob i o hi;⟨L,a,b.of_block (by rw[e])⟩,r.fresh,r.sep,r.gl⟩
theorem Hp.dQ(h:Hp)(i:Pos)(o:Option Ob):(h.put i o).get i=o:=T.nR _ _ _
theorem Hp.cO(h:Hp){i j:Pos}(a:j≠i)(o:Option Ob):(h.put i o).get j=h.get j:=T.rJ _ a _
theorem Hp.pX(h:Hp)(o:Ob):(h.new o).get h.next=some o:=T.nR _ _ _
theorem Hp.jl(h:Hp){j:Pos}(a:j≠h.next)(o:Ob):(h.new o).get j=h.get j:=T.rJ _ a _
theorem Rel.lt_next{G:Nat}{M:Mp}{h:Hp}{w:World}(r:Rel G M h w){i:Pos}{L:Loc}(hi:M i=some L):i.nat<h.next.nat:=by
 rcases Nat.lt_or_ge i.nat h.next.nat with hl|hl
 ·exact hl
 ·rw[r.fresh i hl]at hi;cases hi
theorem Rel.ne_next{G:Nat}{M:Mp}{h:Hp}{w:World}(r:Rel G M h w){i:Pos}{L:Loc}(hi:M i=some L):i≠h.next:=by
 intro e;have:=r.lt_next hi;rw[e]at this;omega
def Mp.add(M:Mp)(i:Pos)(L:Loc):Mp:=λj=>if j=i then some L else M j
theorem Mp.eF(M:Mp)(i:Pos)(L:Loc):M.add i L i=some L:=if_pos rfl
theorem Mp.fQ(M:Mp){i j:Pos}(a:j≠i)(L:Loc):M.add i L j=M j:=if_neg a
theorem Mp.QG{M:Mp}{i:Pos}(h:M i=none)(L:Loc):M.le (M.add i L):=by
 intro j K a;by_cases e:j=i
 ·subst e;rw[h]at a;cases a
 ·rw[M.fQ e];exact a
theorem Rel.new{G:Nat}{M:Mp}{h:Hp}{w:World}(r:Rel G M h w)(o:Ob)(b:Obj)(n:Nat){w':World}
  (H:w'.heap=w.heap.push b) (C:w'.os=w.os) (P:w'.tape=w.tape) (x:w'.output=w.output)
  (J:∀N:Mp,M.le N->jM N ⟨w.heap.size,0,n⟩ w' o):
  Rel G (M.add h.next ⟨w.heap.size,0,n⟩) (h.new o) w'/\Ext M h w (M.add h.next ⟨w.heap.size,0,n⟩) (h.new o) w'/\M.le (M.add h.next ⟨w.heap.size,0,n⟩):=by
 have f:M h.next=none:=r.fresh _ (j! _);have c:=Mp.QG f ⟨w.heap.size,0,n⟩;have d:∀k,k<w.heap.size->w'.heap[k]?=w.heap[k]?:=λk E=>by rw[H,Array.getElem?_push,if_neg (by omega)]
 refine⟨⟨λi p hi=>?_,λi hi=>?_,λi j p q L K s hi y D a m=>?_,λg I=>?_⟩,⟨c,?_,C,P,x,by rw[H];simp,λk E _=>d k E,λi p L hi D a=>?_,λi hi s=>?_,λi p L hi a=>?_,λi hi s=>?_⟩,c⟩
 ·by_cases e:i=h.next
  ·subst e;rw[h.pX]at hi;cases hi;exact⟨_,M.eF _ _,J _ c⟩
  ·rw[h.jl e]at hi;obtain⟨L,a,t⟩:=r.ob i p hi;exact⟨L,by rw[M.fQ e];exact a,(t.of_block (d _ t.lt)).mono c⟩
 ·have O:(h.new o).next.nat=h.next.nat+1:=Pos.fA _;rw[O]at hi;have e:i≠h.next:=λe=>by rw[e]at hi;omega
  rw[M.fQ e];exact r.fresh i (by omega)
 ·by_cases z:i=h.next
  ·subst z;rw[M.eF]at a;cases a;have l:j≠h.next:=λe=>s e.symm;rw[M.fQ l]at m;rw[h.jl l]at y;obtain⟨K',u,t⟩:=r.ob j q y;rw[m]at u;cases u;have:=t.lt;show w.heap.size≠K.blk;omega
  ·rw[M.fQ z]at a;rw[h.jl z]at hi;obtain⟨S,v,t⟩:=r.ob i p hi;rw[a]at v;cases v;by_cases l:j=h.next
   ·subst l;rw[M.eF]at m;cases m;have:=t.lt;show L.blk≠w.heap.size;omega
   ·rw[M.fQ l]at m;rw[h.jl l]at y;exact r.sep i j p q L K s hi y D a m
 ·obtain⟨Q,B⟩:=r.gl g I;exact⟨Q,c _ _ B⟩
 ·show h.next.nat<=h.next.succ.nat;rw[Pos.fA];omega
 ·by_cases e:i=h.next
  ·subst e;rw[M.eF]at a;cases a;exact .inl (j! _)
  ·rw[h.jl e]at hi;rw[M.fQ e]at a;exact .inr ⟨i,p,L,hi,D,a,rfl⟩
 ·have e:i≠h.next:=λe=>by rw[e]at hi;omega
  rw[h.jl e];exact s
 ·by_cases e:i=h.next
  ·subst e;rw[M.eF]at a;cases a;exact .inl (j! _)
  ·rw[h.jl e]at hi;rw[M.fQ e]at a;exact .inr ⟨i,p,L,hi,a,rfl⟩
 ·have e:i≠h.next:=λe=>by rw[e]at hi;omega
  rw[M.fQ e];exact s
theorem Rel.turn{G:Nat}{M:Mp}{h:Hp}{w:World}(r:Rel G M h w){i:Pos}{o o':Ob}{L:Loc}(hi:h.get i=some o)(f:M i=some L)
  (c:o.own=true) {w':World} (N:w'.heap.size=w.heap.size) (m:∀k,k≠L.blk->w'.heap[k]?=w.heap[k]?)
  (x:w'.os=w.os) (I:w'.tape=w.tape) (n:w'.output=w.output) (E:jM M L w' o'):
  Rel G M (h.put i (some o')) w'/\Ext M h w M (h.put i (some o')) w':=by
 refine⟨⟨λj p d=>?_,r.fresh,λa b p q A B l u hb y s t=>?_,r.gl⟩,⟨M.le_refl,j! _,x,I,n,by omega,λk J v=>m k (λe=>v i o L hi c f e.symm),λj p K d y g=>?_,λj d l=>?_,λj p K d g=>?_,λ_ _ l=>l⟩⟩
 ·by_cases e:j=i
  ·subst e;rw[h.dQ]at d;cases d;exact⟨L,f,E⟩
  ·rw[h.cO e]at d;obtain⟨K,g,H⟩:=r.ob j p d;exact⟨K,g,H.of_block (m _ (λD=>r.sep i j o p L K (Ne.symm e) hi d c f g D.symm))⟩
 ·by_cases z:a=i
  ·subst z;rw[h.cO (Ne.symm l)]at hb;rw[f]at s;cases s;exact r.sep a b o q L B l hi hb c f t
  ·rw[h.cO z]at u;by_cases C:b=i
   ·subst C;rw[f]at t;cases t;exact λe=>r.sep b a o p L A (Ne.symm l) hi u c f s e.symm
   ·rw[h.cO C]at hb;exact r.sep a b p q A B l u hb y s t
 ·by_cases e:j=i
  ·subst e;rw[f]at g;cases g;exact .inr ⟨j,o,L,hi,c,f,rfl⟩
  ·rw[h.cO e]at d;exact .inr ⟨j,p,K,d,y,g,rfl⟩
 ·by_cases e:j=i
  ·subst e;rw[hi]at l;cases l
  ·rw[h.cO e];exact l
 ·by_cases e:j=i
  ·subst e;rw[f]at g;cases g;exact .inr ⟨j,o,L,hi,f,rfl⟩
  ·rw[h.cO e]at d;exact .inr ⟨j,p,K,d,g,rfl⟩
theorem Rel.drop{G:Nat}{M:Mp}{h:Hp}{w:World}(r:Rel G M h w)(i:Pos):Rel G M (h.put i none) w/\Ext M h w M (h.put i none) w:=by
 have key:∀{j:Pos} {p:Ob},(h.put i none).get j=some p->h.get j=some p:=λ{j p} c=>by
  by_cases e:j=i
  ·subst e;rw[h.dQ]at c;cases c
  ·rwa[h.cO e]at c
 refine⟨⟨λj p c=>r.ob j p (key c),r.fresh,λa b p q A B d g hb=>r.sep a b p q A B d (key g) (key hb),r.gl⟩,⟨M.le_refl,j! _,rfl,rfl,rfl,j! _,λ_ _ _=>rfl,λj p K c k f=>.inr ⟨j,p,K,key c,k,f,rfl⟩,λj c d=>?_,λj p K c f=>.inr ⟨j,p,K,key c,f,rfl⟩,λ_ _ d=>d⟩⟩;by_cases e:j=i
 ·subst e;exact h.dQ _ _
 ·rw[h.cO e];exact d
theorem Rel.cell{G:Nat}{M:Mp}{h:Hp}{w:World}(r:Rel G M h w){i:Pos}{wr:Wr}{cs:List V}{L:Loc}{k:Nat}{v:V}
  (hi:(h.get i).bind Ob.row=some (wr,cs)) (n:M i=some L) (l:cs[k]?=some v):
  ∃x,w.cell? (L.at k)=some x/\Rp M v x/\scalar x=true:=by
 cases d:h.get i with
 |none=>rw[d]at hi;cases hi
 |some o=>
  rw[d]at hi;obtain⟨q,a,m⟩:=r.ob i _ d;rw[n]at a;cases a;cases o with
  |cells t cs0=>
   cases hi;obtain⟨c,el,fr,hb,g,b,_⟩:=m;obtain⟨x,j,e,f⟩:=b k v l;exact⟨x,by simp[L!,Loc.at,hb,j],e,f⟩
  |bytes cs0=>
   cases hi;obtain⟨c,el,fr,hb,g,b,_⟩:=m;obtain⟨x,j,e,f⟩:=b k v l;exact⟨x,by simp[L!,Loc.at,hb,j],e,f⟩
  |map es=>cases hi
  |iter s p=>cases hi
theorem pV{h:Hp}{i:Pos}{t:TypeId}{f:Bool}{cs:List V}(hi:(h.get i).bind Ob.row=some (.rw t f,cs)):h.get i=some (.cells (.rw t f) cs):=by
 cases a:h.get i with
 |none=>rw[a]at hi;cases hi
 |some o=>
  rw[a]at hi;cases o<;>first|(cases hi;done)|(cases hi;rfl)
def I9(n:Nat)(l:List V):Option V:=
 J! (motive:=λ_=>List V->Option V) (λl=>k! l none (λa _=>some a)) (λ_ b l=>k! l none (λ_ t=>b t)) n l
def fB(n:Nat)(l:List V):List V:=
 J! (motive:=λ_=>List V->List V) (λl=>l) (λ_ a l=>k! l [] (λ_ t=>a t)) n l
def gm(n:Nat)(l:List V):Option (List V):=
 J! (motive:=λ_=>List V->Option (List V)) (λ_=>some []) (λ_ b l=>k! l none (λa t=>i! (b t) none (λr=>some (a::r)))) n l
def OI(vs:List V)(l:List V):Option (List V):=
 List.rec (motive:=λ_=>List V->Option (List V)) (λl=>some l) (λv _ a l=>k! l none (λ_ t=>i! (a t) none (λr=>some (v::r)))) vs l
def iZ(n:Nat)(vs:List V)(l:List V):Option (List V):=
 J! (motive:=λ_=>List V->Option (List V)) (λl=>OI vs l) (λ_ b l=>k! l none (λa t=>i! (b t) none (λr=>some (a::r)))) n l
theorem mY(n:Nat):∀l:List V,I9 n l=l[n]?:=by
 induction n with
 |zero=>intro l;cases l<;>rfl
 |succ n b=>intro l;cases l with
  |nil=>rfl
  |cons a t=>exact(b t).trans (by simp)
theorem jH(n:Nat):∀l:List V,fB n l=l.drop n:=by
 induction n with
 |zero=>intro l;rfl
 |succ n b=>intro l;cases l with
  |nil=>rfl
  |cons a t=>exact(b t).trans (by simp)
theorem PS(n:Nat):∀{l r:List V},gm n l=some r->n<=l.length/\r=l.take n:=by
 induction n with
 |zero=>intro l r h;cases h;simp
 |succ n d=>intro l r h;cases l with
  |nil=>cases h
  |cons a t=>
   change i! (gm n t) none (λr=>some (a::r))=some r at h;cases b:gm n t with
   |none=>rw[b]at h;cases h
   |some s=>rw[b]at h;cases h;obtain⟨e,c⟩:=d b;exact⟨by simp;omega,by rw[c];rfl⟩
theorem Fq{n:Nat}:∀{l:List V},n<=l.length->gm n l=some (l.take n):=by
 induction n with
 |zero=>intro l _;rfl
 |succ n b=>intro l h;cases l with
  |nil=>simp at h
  |cons a t=>
   change @i! (List V) (λ_=>Option (List V)) (gm n t) none (λr=>some (a::r))=_;rw[b (by simpa using h)];rfl
theorem aBO(vs:List V):∀{l r:List V},OI vs l=some r->vs.length<=l.length/\r=vs++l.drop vs.length:=by
 induction vs with
 |nil=>intro l r h;cases h;simp
 |cons v vs d=>intro l r h;cases l with
  |nil=>cases h
  |cons a t=>
   change i! (OI vs t) none (λr=>some (v::r))=some r at h;cases b:OI vs t with
   |none=>rw[b]at h;cases h
   |some s=>rw[b]at h;cases h;obtain⟨e,c⟩:=d b;exact⟨by simp;omega,by rw[c];rfl⟩
theorem Ee(n:Nat)(vs:List V):∀{l r:List V},iZ n vs l=some r->n+vs.length<=l.length/\r=l.take n++vs++l.drop (n+vs.length):=by
 induction n with
 |zero=>intro l r h;obtain⟨a,b⟩:=aBO vs h;exact⟨by omega,by rw[b];simp⟩
 |succ n e=>intro l r h;cases l with
  |nil=>cases h
  |cons a t=>
   change i! (iZ n vs t) none (λr=>some (a::r))=some r at h;cases c:iZ n vs t with
   |none=>rw[c]at h;cases h
   |some s=>
    rw[c]at h;cases h;obtain⟨f,d⟩:=e c;exact⟨by simp;omega,by rw[d,show n+1+vs.length=(n+vs.length)+1 from by omega];rfl⟩
theorem ahq{n:Nat}{vs l r:List V}(h:iZ n vs l=some r)(k:Nat):r[k]?=if k<n then l[k]? else if k<n+vs.length then vs[k - n]? else l[k]?:=by
 obtain⟨e,d⟩:=Ee n vs h;have c:(l.take n).length=n:=by simp;omega
 rw[d,List.append_assoc,R!];split
 ·rename_i a;rw[c]at a;rw[if_pos a,E!,if_pos a]
 ·rename_i a;rw[c]at a⊢;rw[if_neg a,R!];split
  ·rename_i b;rw[if_pos (by omega)]
  ·rename_i b;rw[if_neg (by omega),V!];congr 1;omega
theorem Rel.cells{G:Nat}{M:Mp}{h:Hp}{w:World}(r:Rel G M h w){i:Pos}{wr:Wr}{cs:List V}{L:Loc}{n o:Nat}{vs:List V}
  (hi:(h.get i).bind Ob.row=some (wr,cs)) (C:M i=some L) (D:gm n (fB o cs)=some vs):
  ∃xs:List Value,bU M vs xs/\xs.length=n/\(∀x∈xs,scalar x=true)/\∀(j:Nat) (x:Value),xs[j]?=some x->w.cell? ((L.at o).add j)=some x:=by
 obtain⟨z,t⟩:=PS n D;rw[jH]at z t;have g:vs.length=n:=by rw[t];simp at z⊢;omega
 have l:∀j v,vs[j]?=some v->cs[o+j]?=some v:=λj v e=>by
  rw[t,E!]at e;split at e
  ·rwa[V!]at e
  ·cases e
 have u:∀j:Nat,∃x:Value,j<n->∃v,vs[j]?=some v/\w.cell? (L.at (o+j))=some x/\Rp M v x/\scalar x=true:=λj=>by
  by_cases e:j<n
  ·have q:vs[j]?=some vs[j]:=t! (by omega);obtain⟨x,a,b,c⟩:=r.cell hi C (l j _ q);exact⟨x,λ_=>⟨_,q,a,b,c⟩⟩
  ·exact⟨undef,λh=>absurd h e⟩
 let f:Nat->Value:=λj=>(u j).choose
 have s:∀j,j<n->∃v,vs[j]?=some v/\w.cell? (L.at (o+j))=some (f j)/\Rp M v (f j)/\scalar (f j)=true:=λj e=>(u j).choose_spec e;refine⟨(List.range n).map f,bU.mk (by simp[g]) (λk v y=>?_),by simp,λx E=>?_,λj x e=>?_⟩
 ·have p:k<n:=by
   rw[<-g];exact(r!.1 y).1
  obtain⟨B,a,b,c,d⟩:=s k p;rw[y]at a;cases a;exact⟨f k,by simp[p],c⟩
 ·obtain⟨j,e,rfl⟩:=List.mem_map.1 E;obtain⟨B,a,b,c,d⟩:=s j (List.mem_range.1 e);exact d
 ·have m:j<n:=by
   have:=(r!.1 e).1;simpa using this
  obtain⟨B,a,b,c,d⟩:=s j m;simp[m]at e;subst e;rw[<-b];congr 1;unfold Loc.at Addr.add;simp only;split<;>simp_all[a?]
theorem OG{x:Value}(h:scalar x=true):x.oneCell'=true:=by
 cases x<;>simp_all[scalar,Value.oneCell']
theorem aBI{n:Nat}{vs l r:List V}(h:iZ n vs l=some r):r.length=l.length:=by
 obtain⟨a,rfl⟩:=Ee n vs h;simp;omega
theorem Rel.store{P:Program}{G:Nat}{M:Mp}{h:Hp}{w:World}(r:Rel G M h w){i:Pos}{cs n:List V}{L:Loc}{o:Nat}{vs:List V}{xs:List Value}
  {t:TypeId} {full:Bool} (hi:h.get i=some (.cells (.rw t full) cs)) (Q:M i=some L) (K:iZ o vs cs=some n) (X:bU M vs xs) (p:∀x∈xs,scalar x=true):
  ∃w',(storeCells (L.at o) xs).run P w=.ok () w'/\Rel G M (h.put i (some (.cells (.rw t full) n))) w'/\Ext M h w M (h.put i (some (.cells (.rw t full) n))) w':=by
 obtain⟨U,_⟩:=Ee o vs K;obtain⟨L',y,c,el,fr,hb,ab,J,f⟩:=r.ob i _ hi;rw[Q]at y;cases y;have ac:=X.length;have q:∀j,j<xs.length->L.off+o+j<c.size:=λj s=>by
  have b:(cs[o+j]?)=some cs[o+j]:=t! (by omega);obtain⟨x,l,_⟩:=J (o+j) _ b;have:=(b!.1 l).1;omega
 have m:=run_storeCells_cells (P:=P) L.blk (L.off+o) xs 0 w
  (λj s=>by
   have:=q j s;simp[L!,hb,this])
  (λj s=>by
   have p:=q j s;have:=f.2.1 (L.off+o+j) (by omega) (by omega);simp[W!,hb];omega)
  (λv hv=>OG (p v hv))
 simp only[e?]at m;refine⟨_,m,?_⟩;have z:∃d,(w.setCells L.blk (L.off+o) xs).heap[L.blk]?=some (.cells d el fr)/\d.size=c.size/\(∀k,d[k]?=if L.off+o<=k/\k<L.off+o+xs.length then xs[k - (L.off+o)]? else c[k]?):=by
  have key:∀(xs:List Value) (a:Nat) (c:Array Value) (w:World),w.heap[L.blk]?=some (.cells c el fr)->(∀j,j<xs.length->a+j<c.size)->
    ∃d,(w.setCells L.blk a xs).heap[L.blk]?=some (.cells d el fr)/\d.size=c.size/\(∀k,d[k]?=if a<=k/\k<a+xs.length then xs[k - a]? else c[k]?):=by
   intro xs;induction xs with
   |nil=>intro a c w N _;exact⟨c,N,rfl,λk=>by rw[if_neg (by simp<;>omega)]⟩
   |cons x xs D=>
    intro a c w N g;have O:(w.setCell ⟨L.blk,a,none⟩ x).heap[L.blk]?=some (.cells (c.setIfInBounds a x) el fr):=by
     simp[A!,P!,N]
    obtain⟨d,p,E,H⟩:=D (a+1) (c.setIfInBounds a x) _ O (λj s=>by have:=g (j+1) (by simp;omega);simp;omega);refine⟨d,p,by simpa using E,λk=>?_⟩;rw[H k];have ha:=g 0 (by simp)
    by_cases e:k=a
    ·subst e;rw[if_neg (by omega),if_pos (by simp)];rw[d?,x! (by simpa using ha)];rfl
    ·by_cases b:a+1<=k/\k<a+1+xs.length
     ·rw[if_pos b,if_pos (by simp;omega),show k - a=(k - (a+1))+1 from by omega];simp
     ·rw[if_neg b,if_neg (by simp at b⊢;omega),I! (by omega)]
  exact key xs (L.off+o) c w hb (λj s=>q j s)
 obtain⟨d,I,W,B⟩:=z;have C:∀k,k≠L.blk->(w.setCells L.blk (L.off+o) xs).heap[k]?=w.heap[k]?:=by
  have key:∀(xs:List Value) (a:Nat) (w:World) (k:Nat),k≠L.blk->(w.setCells L.blk a xs).heap[k]?=w.heap[k]?:=by
   intro xs;induction xs with
   |nil=>intros;rfl
   |cons x xs D=>intro a w k b;rw[y!,D _ _ _ b];exact z! _ _ _ _ b
  exact λk b=>key xs _ w k b
 have u:∀(xs:List Value) (a:Nat) (w:World),(w.setCells L.blk a xs).heap.size=w.heap.size/\(w.setCells L.blk a xs).os=w.os/\(w.setCells L.blk a xs).tape=w.tape/\(w.setCells L.blk a xs).output=w.output:=by
  intro xs;induction xs with
  |nil=>intros;exact⟨rfl,rfl,rfl,rfl⟩
  |cons x xs D=>intro a w;obtain⟨p,E,H,h4⟩:=D (a+1) (w.setCell ⟨L.blk,a,none⟩ x);exact⟨by rw[y!,p];simp[A!],E,H,h4⟩
 obtain⟨Y,Z,g3,g4⟩:=u xs (L.off+o) w;refine r.turn hi Q rfl Y C Z g3 g4 ⟨d,el,fr,I,by omega,λk v b=>?_,f.1,f.2.1,λS=>⟨(f.2.2 S).1,by rw[(f.2.2 S).2,aBI K]⟩⟩;rw[ahq K]at b;rw[B];split at b
 ·rename_i g;rw[if_neg (by omega)];exact J k v b
 ·rename_i aa;split at b
  ·rename_i g;rw[if_pos (by omega),show L.off+k - (L.off+o)=k - o from by omega];obtain⟨x,l,hr⟩:=X.get b;exact⟨x,l,hr,p x (p! l)⟩
  ·rw[if_neg (by omega)];exact J k v b
theorem Rel.aHU{P:Program}{G:Nat}{M:Mp}{h:Hp}{w:World}(r:Rel G M h w){i:Pos}{cs m:List V}{L:Loc}{o:Nat}{vs:List V}{xs:List Value}
  (hi:h.get i=some (.bytes cs)) (N:M i=some L) (Q:iZ o vs cs=some m) (U:bU M vs xs) (n:∀x∈xs,scalar x=true):
  ∃w',(storeCells (L.at o) xs).run P w=.ok () w'/\Rel G M (h.put i (some (.bytes m))) w'/\Ext M h w M (h.put i (some (.bytes m))) w':=by
 obtain⟨O,_⟩:=Ee o vs Q;obtain⟨L',t,c,el,fr,hb,ab,I,y⟩:=r.ob i _ hi;rw[N]at t;cases t;have ac:=U.length;have p:∀j,j<xs.length->L.off+o+j<c.size:=λj q=>by
  have b:(cs[o+j]?)=some cs[o+j]:=t! (by omega);obtain⟨x,g,_⟩:=I (o+j) _ b;have:=(b!.1 g).1;omega
 have l:=run_storeCells_cells (P:=P) L.blk (L.off+o) xs 0 w
  (λj q=>by
   have:=p j q;simp[L!,hb,this])
  (λj q=>by
   have n:=p j q;have:=y (L.off+o+j) (by omega) (by omega);simp[W!,hb];omega)
  (λv hv=>OG (n v hv))
 simp only[e?]at l;refine⟨_,l,?_⟩;have u:∃d,(w.setCells L.blk (L.off+o) xs).heap[L.blk]?=some (.cells d el fr)/\d.size=c.size/\(∀k,d[k]?=if L.off+o<=k/\k<L.off+o+xs.length then xs[k - (L.off+o)]? else c[k]?):=by
  have key:∀(xs:List Value) (a:Nat) (c:Array Value) (w:World),w.heap[L.blk]?=some (.cells c el fr)->(∀j,j<xs.length->a+j<c.size)->
    ∃d,(w.setCells L.blk a xs).heap[L.blk]?=some (.cells d el fr)/\d.size=c.size/\(∀k,d[k]?=if a<=k/\k<a+xs.length then xs[k - a]? else c[k]?):=by
   intro xs;induction xs with
   |nil=>intro a c w J _;exact⟨c,J,rfl,λk=>by rw[if_neg (by simp<;>omega)]⟩
   |cons x xs C=>
    intro a c w J f;have K:(w.setCell ⟨L.blk,a,none⟩ x).heap[L.blk]?=some (.cells (c.setIfInBounds a x) el fr):=by
     simp[A!,P!,J]
    obtain⟨d,n,D,E⟩:=C (a+1) (c.setIfInBounds a x) _ K (λj q=>by have:=f (j+1) (by simp;omega);simp;omega);refine⟨d,n,by simpa using D,λk=>?_⟩;rw[E k];have ha:=f 0 (by simp)
    by_cases e:k=a
    ·subst e;rw[if_neg (by omega),if_pos (by simp)];rw[d?,x! (by simpa using ha)];rfl
    ·by_cases b:a+1<=k/\k<a+1+xs.length
     ·rw[if_pos b,if_pos (by simp;omega),show k - a=(k - (a+1))+1 from by omega];simp
     ·rw[if_neg b,if_neg (by simp at b⊢;omega),I! (by omega)]
  exact key xs (L.off+o) c w hb (λj q=>p j q)
 obtain⟨d,H,S,z⟩:=u;have B:∀k,k≠L.blk->(w.setCells L.blk (L.off+o) xs).heap[k]?=w.heap[k]?:=by
  have key:∀(xs:List Value) (a:Nat) (w:World) (k:Nat),k≠L.blk->(w.setCells L.blk a xs).heap[k]?=w.heap[k]?:=by
   intro xs;induction xs with
   |nil=>intros;rfl
   |cons x xs C=>intro a w k b;rw[y!,C _ _ _ b];exact z! _ _ _ _ b
  exact λk b=>key xs _ w k b
 have s:∀(xs:List Value) (a:Nat) (w:World),(w.setCells L.blk a xs).heap.size=w.heap.size/\(w.setCells L.blk a xs).os=w.os/\(w.setCells L.blk a xs).tape=w.tape/\(w.setCells L.blk a xs).output=w.output:=by
  intro xs;induction xs with
  |nil=>intros;exact⟨rfl,rfl,rfl,rfl⟩
  |cons x xs C=>intro a w;obtain⟨n,D,E,h4⟩:=C (a+1) (w.setCell ⟨L.blk,a,none⟩ x);exact⟨by rw[y!,n];simp[A!],D,E,h4⟩
 obtain⟨W,X,Y,Z⟩:=s xs (L.off+o) w;refine r.turn hi N rfl W B X Y Z ⟨d,el,fr,H,by omega,λk v b=>?_,y⟩;rw[ahq Q]at b;rw[z];split at b
 ·rename_i f;rw[if_neg (by omega)];exact I k v b
 ·rename_i aa;split at b
  ·rename_i f;rw[if_pos (by omega),show L.off+k - (L.off+o)=k - o from by omega];obtain⟨x,g,hr⟩:=U.get b;exact⟨x,g,hr,n x (p! g)⟩
  ·rw[if_neg (by omega)];exact I k v b
section
variable{α:Type}
variable{M:Mp}{c:Value}
theorem Rp.bool{b:Bool}(h:Rp M (.bool b) c):c=.bool b:=by cases h.2;rfl
theorem Rp.int{k:IntKind}{n:Int}(h:Rp M (.int k n) c):c=.int k n:=by cases h.2;rfl
theorem Rp.str{s:List Nat}(h:Rp M (.str s) c):(∀b∈s,b<256)/\c=.string (bts s):=⟨h.2.1,by cases h.2.2;rfl⟩
theorem Rp.ptr{i:Pos}{o:Nat}(h:Rp M (.ptr i o) c):∃L,M i=some L/\c=.pointer (some (L.at o)):=by
 obtain⟨_,L,a,e⟩:=h;cases e;exact⟨L,a,rfl⟩
theorem Rp.bP(h:Rp M .bP c):c=.pointer none:=by cases h.2;rfl
theorem Rp.slice{i:Pos}{o n:Nat}{k:Cap}(h:Rp M (.slice i o n k) c):∃L m,M i=some L/\ae8 L o n k m/\c=.slice (some (L.at o)) n m:=by
 obtain⟨_,L,m,a,b,e⟩:=h;cases e;exact⟨L,m,a,b,rfl⟩
theorem Rp.aQ(h:Rp M .aQ c):c=.slice none 0 0:=by cases h.2;rfl
theorem Rp.emp(h:Rp M .emp c):∃a k,c=.slice (some a) 0 k:=by obtain⟨_,a,k,e⟩:=h;cases e;exact⟨a,k,rfl⟩
theorem Rp.map{i:Pos}(h:Rp M (.map i) c):∃L,M i=some L/\c=.map (some L.blk):=by obtain⟨_,L,a,e⟩:=h;cases e;exact⟨L,a,rfl⟩
theorem Rp.jG(h:Rp M .jG c):c=.map none:=by cases h.2;rfl
theorem Rp.fV(h:Rp M .fV c):c=.nilFunc:=by cases h.2;rfl
theorem Rp.nP(h:Rp M .nP c):c=.nilIface:=by cases h.2;rfl
theorem Rp.iface{t:TypeId}{v:V}(h:Rp M (.iface t v) c):∃x,Rp M v x/\c=.iface t x:=by
 obtain⟨_,x,a,b,e⟩:=h;cases e;exact⟨x,⟨a,b⟩,rfl⟩
theorem Rp.func{fn:Fn}{a b:V}(h:Rp M (.func fn a b) c):∃g x y,Bh M fn g/\bU M a.list x/\bU M b.list y/\c=.func g x.toArray y.toArray:=by
 obtain⟨_,g,x,y,f,p,q,r,e⟩:=h;cases e;exact⟨g,x,y,f,bU.of p.1 q,bU.of p.2 r,rfl⟩
theorem Rp.agg{a:V}(h:Rp M (.agg a) c):∃x,bU M a.list x/\(∀y∈x,scalar y=true)/\c=.agg x.toArray:=by
 obtain⟨_,x,p,q,r,e⟩:=h;cases e;exact⟨x,bU.of p q,r,rfl⟩
theorem Rp.tuple{a:V}(h:Rp M (.tuple a) c):∃x,bU M a.list x/\c=.tuple x.toArray:=by
 obtain⟨_,x,p,q,e⟩:=h;cases e;exact⟨x,bU.of p q,rfl⟩
theorem xP(M:Mp)(b:Bool):Rp M (.bool b) (.bool b):=⟨rfl,rfl⟩
theorem gB(M:Mp)(k:IntKind)(n:Int):Rp M (.int k n) (.int k n):=⟨rfl,rfl⟩
theorem PX{M:Mp}{s:List Nat}(h:∀b∈s,b<256):Rp M (.str s) (.string (bts s)):=⟨rfl,h,rfl⟩
theorem xg{M:Mp}{i:Pos}{L:Loc}(h:M i=some L)(o:Nat):Rp M (.ptr i o) (.pointer (some (L.at o))):=⟨rfl,L,h,rfl⟩
theorem iY{M:Mp}{i:Pos}{L:Loc}(h:M i=some L){o n:Nat}{k:Cap}{m:Nat}(a:ae8 L o n k m):Rp M (.slice i o n k) (.slice (some (L.at o)) n m):=⟨rfl,L,m,h,a,rfl⟩
theorem oC(M:Mp):Rp M V.undef undef:=⟨rfl,[],rfl,rfl,rfl⟩
theorem ack{M:Mp}{vs:List V}{xs:List Value}(h:bU M vs xs)(a:∀y∈xs,scalar y=true):Rp M (.agg (V.ofList vs)) (.agg xs.toArray):=
 ⟨rfl,xs,V.dO vs,h.to,a,rfl⟩
theorem apW{M:Mp}{vs:List V}{xs:List Value}(h:bU M vs xs):Rp M (.tuple (V.ofList vs)) (.tuple xs.toArray):=
 ⟨rfl,xs,V.dO vs,h.to,rfl⟩
end
section
variable{α:Type}
def rP(v:V)(k:Pos->Nat->R α):R α:=match v with| .ptr i o=>k i o|_=>.bad
def asInt(v:V)(k:IntKind->Int->R α):R α:=match v with| .int a n=>k a n|_=>.bad
def kY(v:V)(k:Nat->R α):R α:=match v with| .int _ (.ofNat n)=>k n|_=>.bad
def asBool(v:V)(k:Bool->R α):R α:=match v with| .bool b=>k b|_=>.bad
def dP(h:Hp)(i:Pos)(k:Wr->List V->R α):R α:=match h.get i with|some o=>(match o with| .cells w cs=>k w cs| .bytes cs=>k .ro cs|_=>.bad)|none=>.bad
variable{r:α}{h':Hp}
theorem kX{v:V}{k:Pos->Nat->R α}(e:rP v k=.ok r h'):∃i o,v=.ptr i o/\k i o=.ok r h':=by
 unfold rP at e;split at e
 ·exact⟨_,_,rfl,e⟩
 ·cases e
theorem D5{v:V}{k:IntKind->Int->R α}(e:asInt v k=.ok r h'):∃i o,v=.int i o/\k i o=.ok r h':=by
 unfold asInt at e;split at e
 ·exact⟨_,_,rfl,e⟩
 ·cases e
theorem oH{v:V}{k:Nat->R α}(e:kY v k=.ok r h'):∃i o,v=.int i (.ofNat o)/\k o=.ok r h':=by
 unfold kY at e;split at e
 ·exact⟨_,_,rfl,e⟩
 ·cases e
theorem an0{v:V}{k:Bool->R α}(e:asBool v k=.ok r h'):∃b,v=.bool b/\k b=.ok r h':=by
 unfold asBool at e;split at e
 ·exact⟨_,rfl,e⟩
 ·cases e
theorem fZ{h:Hp}{i:Pos}{k:Wr->List V->R α}(e:dP h i k=.ok r h'):∃w cs,(h.get i).bind Ob.row=some (w,cs)/\k w cs=.ok r h':=by
 unfold dP at e;split at e
 ·rename_i o a;split at e
  ·exact⟨_,_,by rw[a];rfl,e⟩
  ·exact⟨_,_,by rw[a];rfl,e⟩
  ·cases e
 ·cases e
end
section
variable{α:Type}
def Good(P:Program)(G:Nat)(M:Mp)(h:Hp)(w:World)(s:Sem Value)(r:V)(h':Hp):Prop:=
 ∃c w' M',s.run P w=.ok c w'/\Rp M' r c/\Rel G M' h' w'/\Ext M h w M' h' w'
variable{P:Program}{G:Nat}{M:Mp}{h h':Hp}{w:World}{r:V}
theorem Good.same(a:Rel G M h w){s:Sem Value}{c:Value}(e:s.run P w=.ok c w)(b:Rp M r c):Good P G M h w s r h:=
 ⟨c,w,M,e,b,a,.refl a⟩
def aF(a:V)(h:Hp):R V:=rP a λi o=>dP h i λ_ cs=>match I9 o cs with|some v=>.ok v h|none=>.bad
def bT(n:Nat)(a:V)(h:Hp):R V:=rP a λi o=>dP h i λ_ cs=>match gm n (fB o cs) with|some l=>.ok (.agg (V.ofList l)) h|none=>.bad
def ja:V->Bool
 | .tuple _=>false
 |_=>true
def TF(i:Pos)(o:Nat)(x:V)(h:Hp):R V:=match h.get i with
 |some b=>(match b with
  | .bytes cs=>(match iZ o x.cells cs with|some a=>.ok V.undef (h.put i (some (.bytes a)))|none=>.bad)
  |_=>.bad)
 |none=>.bad
def aT(sz:Nat)(a x:V)(h:Hp):R V:=rP a λi o=>dP h i λwr cs=>
 match wr,ja x,e! x.cells.length sz with
 | .rw t f,true,true=>(match iZ o x.cells cs with|some b=>.ok V.undef (h.put i (some (.cells (.rw t f) b)))|none=>.bad)
 | .ro,true,true=>TF i o x h
 |_,_,_=>.bad
def fC(t:TypeId)(z:List V)(h:Hp):R V:=.ok (.ptr h.next 0) (h.new (.cells (.rw t true) z))
def fO(t:TypeId)(x:V)(h:Hp):R V:=match ja x with|true=>.ok (.ptr h.next 0) (h.new (.cells (.rw t true) x.cells))|false=>.bad
theorem Tq{t:TypeId}{d:TypeDesc}(a:P.underlying t=some d):(isAgg t).run P w=.ok (match d with| .struct _| .array _ _=>true|_=>false) w:=by
 simp only[isAgg,u!,run_underlying a,l!];cases d<;>rfl
theorem aBZ{t:TypeId}{d:TypeDesc}(l:P.underlying t=some d)(k:(match d with| .struct _| .array _ _=>true|_=>false)=false){a:V}{c:Value}(f:Rel G M h w)(j:Rp M a c)(e:aF a h=.ok r h'):
  Good P G M h w (G! t c) r h':=by
 obtain⟨i,o,rfl,e⟩:=kX e;obtain⟨wr,cs,hi,e⟩:=fZ e;obtain⟨L,g,rfl⟩:=j.ptr;rw[mY]at e;split at e
 ·rename_i v m;cases e;obtain⟨x,n,b,_⟩:=f.cell hi g m;refine Good.same f (c:=x) ?_ b;simp only[G!,n!,loadVar,u!,c?,l!,Tq l,k];simp[run_load,n]
 ·cases e
theorem aBY{t:TypeId}{d:TypeDesc}{ti:TypeInfo}(q:P.underlying t=some d)(p:(match d with| .struct _| .array _ _=>true|_=>false)=true)(b:P.info? t=some ti){a:V}{c:Value}
  (k:Rel G M h w) (n:Rp M a c) (e:bT ti.size a h=.ok r h'):Good P G M h w (G! t c) r h':=by
 obtain⟨i,o,rfl,e⟩:=kX e;obtain⟨wr,cs,hi,e⟩:=fZ e;obtain⟨L,m,rfl⟩:=n.ptr;split at e
 ·rename_i l hl;cases e;obtain⟨xs,s,g,j,f⟩:=k.cells hi m hl;refine Good.same k (c:=.agg xs.toArray) ?_ (ack s j);have:=run_loadCells_list (P:=P) w (L.at o) xs f
  rw[g]at this;simp only[G!,n!,loadVar,u!,c?,l!,Tq q,p];simp[sizeOf,typeInfo,b,this]
 ·cases e
theorem zG{x:V}{c:Value}(e:Rp M x c)(g:ja x=true):∀y∈c.cells.toList,scalar y=true:=by
 intro y d;cases x with
 |agg a=>
  obtain⟨xs,_,j,rfl⟩:=e.agg;exact j y (by simpa[c!]using d)
 |tuple a=>cases g
 |nil=>cases e.1
 |cons a b=>cases e.1
 |bool b=>cases e.bool;simp[c!]at d;subst d;rfl
 |int k n=>cases e.int;simp[c!]at d;subst d;rfl
 |str s=>cases e.str.2;simp[c!]at d;subst d;rfl
 |ptr i o=>obtain⟨L,_,rfl⟩:=e.ptr;simp[c!]at d;subst d;rfl
 |bP=>cases e.bP;simp[c!]at d;subst d;rfl
 |slice i o n k=>obtain⟨L,m,_,_,rfl⟩:=e.slice;simp[c!]at d;subst d;rfl
 |aQ=>cases e.aQ;simp[c!]at d;subst d;rfl
 |emp=>obtain⟨a,k,rfl⟩:=e.emp;simp[c!]at d;subst d;rfl
 |map i=>obtain⟨L,_,rfl⟩:=e.map;simp[c!]at d;subst d;rfl
 |jG=>cases e.jG;simp[c!]at d;subst d;rfl
 |func f a b=>obtain⟨_,_,_,_,_,_,rfl⟩:=e.func;simp[c!]at d;subst d;rfl
 |fV=>cases e.fV;simp[c!]at d;subst d;rfl
 |iface t v=>obtain⟨_,_,rfl⟩:=e.iface;simp[c!]at d;subst d;rfl
 |nP=>cases e.nP;simp[c!]at d;subst d;rfl
theorem aBy{t:TypeId}{ti:TypeInfo}(l:P.info? t=some ti){a x:V}{c d:Value}(y:Rel G M h w)(B:Rp M a c)(m:Rp M x d)(e:aT ti.size a x h=.ok r h'):
  ∃w',(O! t c d).run P w=.ok () w'/\r=V.undef/\Rel G M h' w'/\Ext M h w M h' w':=by
 obtain⟨i,o,rfl,e⟩:=kX e;obtain⟨wr,cs,hi,e⟩:=fZ e;obtain⟨L,v,rfl⟩:=B.ptr;split at e
 ·rename_i C f0 j f;split at e
  ·rename_i n u;cases e;have g:=m.cells;obtain⟨w',p,q,s⟩:=y.store (P:=P) (pV hi) v u g (zG m j);refine⟨w',?_,rfl,q,s⟩;have k:d.cells.size=ti.size:=by
    have:=g.length;have z:=h! f;simp at this;omega
   simp[O!,n!,storeVar,sizeOf,typeInfo,l,k,p]
  ·cases e
 ·rename_i j f;unfold TF at e;split at e
  ·rename_i b hb;split at e
   ·rename_i cs0;split at e
    ·rename_i n u;cases e;have g:=m.cells;obtain⟨w',p,q,s⟩:=y.aHU (P:=P) hb v u g (zG m j);refine⟨w',?_,rfl,q,s⟩;have k:d.cells.size=ti.size:=by
      have:=g.length;have z:=h! f;simp at this;omega
     simp[O!,n!,storeVar,sizeOf,typeInfo,l,k,p]
    ·cases e
   ·cases e
  ·cases e
 ·cases e
theorem Rel.row(n:Rel G M h w)(vs:List V)(c:Array Value)(el:TypeId)(fr:Nat×Nat)(q:bU M vs (c.toList.take vs.length))(o:∀y∈c.toList,scalar y=true)
  (m:∀k,k<=c.size->¬(fr.1<=k/\k<fr.2)) (full:Bool) (d:full=true->c.size=vs.length) {w':World} (l:w'.heap=w.heap.push (.cells c el fr)) (i:w'.os=w.os) (p:w'.tape=w.tape) (f:w'.output=w.output):
  Rel G (M.add h.next ⟨w.heap.size,0,c.size⟩) (h.new (.cells (.rw el full) vs)) w'/\Ext M h w (M.add h.next ⟨w.heap.size,0,c.size⟩) (h.new (.cells (.rw el full) vs)) w':=by
 have b:∀(N:Mp),M.le N->∀(k:Nat) (v:V),vs[k]?=some v->∃x,c[0+k]?=some x/\Rp N v x/\scalar x=true:=by
  intro N e k v g;obtain⟨x,a,j⟩:=q.get g;rw[E!]at a;split at a
  ·exact⟨x,by simpa using a,j.mono e,o x (p! a)⟩
  ·cases a
 have:=n.new (.cells (.rw el full) vs) (.cells c el fr) c.size l i p f (λN e=>⟨c,el,fr,by rw[l];simp,rfl,b N e,rfl,λk _ g=>m k g,λh=>⟨rfl,d h⟩⟩);exact⟨this.1,this.2.1⟩
theorem aIt{t:TypeId}{x:V}{c:Value}(f:Rel G M h w)(b:Rp M x c)(e:fO t x h=.ok r h'):Good P G M h w (k? t c) r h':=by
 unfold fO at e;split at e
 ·rename_i d;cases e;have a:=b.cells;have hl:x.cells.length=c.cells.size:=by have:=a.length;simpa using this.symm
  have:=f.row (w':=w.alloc (.cells c.cells t)) x.cells c.cells t (0,0) (by rw[hl,<-Array.length_toList,List.take_length];exact a) (zG b d) (by simp) true (λ_=>hl.symm) rfl rfl rfl rfl;refine⟨.pointer (some ⟨w.heap.size,0,none⟩),_,_,?_,?_,this.1,this.2⟩
  ·simp[k?,newVar,newRow]
  ·exact xg (M.eF _ _) 0
 ·cases e
end
theorem Jf{a b:IntKind}(h:e! (kix a) (kix b)=true):a=b:=by
 have:=h! h;cases a<;>cases b<;>first|rfl|(simp[kix]at this)
def dY{α:Type}(m:Nat)(k:Nat->α):α:=J! (motive:=λ_=>α) (k 0) (λn _=>k (Nat.succ n)) m
theorem dF{α:Type}(m:Nat)(k:Nat->α):dY m k=k m:=by cases m<;>rfl
def iy(k:IntKind)(n:Int)(h:Hp):R V:=match n with
 | .ofNat m=>dY m λm=>.ok (.int k (.ofNat m)) h
 | .negSucc m=>dY m λm=>.ok (.int k (.negSucc m)) h
theorem fU(k:IntKind)(n:Int)(h:Hp):iy k n h=.ok (.int k n) h:=by
 cases n<;>simp[iy,dF]
def fE(b:Bool)(h:Hp):R V:=match b with
 |true=>.ok (.bool true) h
 |false=>.ok (.bool false) h
theorem fK(b:Bool)(h:Hp):fE b h=.ok (.bool b) h:=by cases b<;>rfl
def wrap64(n:Int):Int:=match n with
 | .ofNat m=>(match B! m 9223372036854775808 with|true=>.ofNat m|false=>w!.wrap (.ofNat m))
 | .negSucc m=>(match B! m 9223372036854775808 with|true=>.negSucc m|false=>w!.wrap (.negSucc m))
def vO(k:IntKind)(n:Int):Int:=match k with
 | .i64=>wrap64 n
 |k=>k.wrap n
theorem wrap_in{n:Int}(a: -9223372036854775808<=n)(b:n<9223372036854775808):w!.wrap n=n:=by
 exact IntWalk.i64_in n ⟨a,by omega⟩
theorem anm(n:Int):wrap64 n=w!.wrap n:=by
 cases n with
 |ofNat m=>
  simp only[wrap64];split
  ·rename_i hb;have:m<9223372036854775808:=by simpa[v!]using hb
   rw[wrap_in]<;>simp<;>omega
  ·rfl
 |negSucc m=>
  simp only[wrap64];split
  ·rename_i hb;have:m<9223372036854775808:=by simpa[v!]using hb
   rw[wrap_in]<;>omega
  ·rfl
theorem zl(k:IntKind)(n:Int):vO k n=k.wrap n:=by
 cases k<;>simp[vO,anm]
def uo:Int->Int->Bool
 | .ofNat a,.ofNat b=>Nat.ble a b
 | .negSucc a,.negSucc b=>Nat.ble b a
 | .negSucc _,.ofNat _=>true
 | .ofNat _,.negSucc _=>false
theorem zu(a b:Int):mG a b=(a==b):=by
 cases a<;>cases b<;>simp only[mG]
 ·rw[g!];simp[N!];omega
 ·rfl
 ·rfl
 ·rw[g!];simp[N!]
theorem QH(a b:Int):uo a b=decide (a<=b):=by
 cases a<;>cases b<;>simp only[uo]<;>rw[g!]<;>simp[Nat.ble_eq]<;>omega
def kP:List Nat->List Nat->Bool
 |_,[]=>false
 | [],_::_=>true
 |a::x,b::y=>(match B! a b with|true=>true|false=>(match e! a b with|true=>kP x y|false=>false))
theorem Fp{a b:Nat}(c:a<256)(hb:b<256)(h:UInt8.ofNat a=UInt8.ofNat b):a=b:=by
 have:=congrArg UInt8.toNat h;simp at this;omega
theorem PO{a:Nat}(b:a<256):(UInt8.ofNat a).toNat=a:=by simp;omega
theorem ajJ(s:List Nat):(bts s).toList=s.map UInt8.ofNat:=by
 simp[bts]
theorem kW(s:List Nat):(bts s).size=s.length:=by simp[bts,ByteArray.size]
theorem XT:∀{s t:List Nat},(∀b∈s,b<256)->(∀b∈t,b<256)->jW s t=(s.map UInt8.ofNat==t.map UInt8.ofNat)
 | [],[],_,_=>rfl
 | [],b::y,_,_=>rfl
 |a::x,[],_,_=>rfl
 |a::x,b::y,g,h=>by
  have j:=XT (s:=x) (t:=y) (λc f=>g c (by simp[f])) (λc f=>h c (by simp[f]));simp only[jW,Z!];have i:=g a (by simp);have hb:=h b (by simp);show _=(UInt8.ofNat a==UInt8.ofNat b&&(x.map UInt8.ofNat==y.map UInt8.ofNat));cases d:e! a b with
  |true=>rw[h! d];simp[j]
  |false=>
   have:¬UInt8.ofNat a=UInt8.ofNat b:=λe=>o! d (Fp i hb e);simp[this]
theorem apJ:∀{s t:List Nat},(∀b∈s,b<256)->(∀b∈t,b<256)->kP s t=i? (s.map UInt8.ofNat) (t.map UInt8.ofNat)
 | [],[],_,_=>rfl
 | [],b::y,_,_=>rfl
 |a::x,[],_,_=>rfl
 |a::x,b::y,g,h=>by
  have j:=apJ (s:=x) (t:=y) (λc d=>g c (by simp[d])) (λc d=>h c (by simp[d]));have i:=g a (by simp);have hb:=h b (by simp);simp only[kP,Z!,i?,<-j];have f:decide (UInt8.ofNat a<UInt8.ofNat b)=B! a b:=by
   rw[g!];simp[UInt8.lt_iff_toNat_lt,v!];omega
  have heq:(UInt8.ofNat a==UInt8.ofNat b)=e! a b:=by
   rw[g!];simp only[beq_iff_eq,N!];exact⟨Fp i hb,λe=>by rw[e]⟩
  rw[f,heq];cases B! a b<;>cases e! a b<;>simp
inductive EqC where
 |none
 |bool
 |ptr (n:Nat)
 |slice
 |map
 |func
 |iface (lit:Bool)
 deriving Inhabited
def aes(c:EqC)(x y:V)(k:Bool->R V):R V:=
 match c with
 | .bool=>(match x,y with| .bool a,.bool b=>k (match a,b with|true,true=>true|false,false=>true|_,_=>false)|_,_=>.bad)
 | .ptr n=>(match x with
  | .bP=>(match y with| .bP=>k true| .ptr _ _=>k false|_=>.bad)
  | .ptr i o=>(match y with| .bP=>k false| .ptr j p=>(match e! n 0,i.eq j with|false,true=>k (e! o p)|_,_=>.bad)|_=>.bad)
  |_=>.bad)
 | .slice=>(match x,y with
  | .aQ,.aQ=>k true| .aQ,.slice _ _ _ _=>k false| .aQ,.emp=>k false| .slice _ _ _ _,.aQ=>k false| .emp,.aQ=>k false|_,_=>.bad)
 | .map=>(match x,y with| .jG,.jG=>k true| .jG,.map _=>k false| .map _,.jG=>k false|_,_=>.bad)
 | .func=>(match x,y with| .fV,.fV=>k true| .fV,.func _ _ _=>k false| .func _ _ _,.fV=>k false|_,_=>.bad)
 | .iface l=>(match x,y with
  | .nP,.nP=>(match l with|true=>k true|false=>.bad)
  | .nP,.iface _ _=>k false| .iface _ _,.nP=>k false
  | .iface t _,.iface u _=>(match e! t u with|false=>k false|true=>.bad)
  |_,_=>.bad)
 | .none=>.bad
def aju(op:BinOp)(k:IntKind)(a b:Int)(h:Hp):R V:=
 match op with
 | .add=>iy k (vO k (Int.add a b)) h
 | .sub=>iy k (vO k (Int.sub a b)) h
 | .mul=>iy k (vO k (Int.mul a b)) h
 | .quo=>(match mG b 0 with|true=>.bad|false=>iy k (vO k (Int.tdiv a b)) h)
 | .rem=>(match mG b 0 with|true=>.bad|false=>iy k (Int.tmod a b) h)
 | .and=>iy k (k.wrap (d! k.bits a&&&d! k.bits b).toNat) h
 | .or=>iy k (k.wrap (d! k.bits a|||d! k.bits b).toNat) h
 | .xor=>iy k (k.wrap (d! k.bits a^^^d! k.bits b).toNat) h
 | .andNot=>iy k (k.wrap (d! k.bits a&&&~~~d! k.bits b).toNat) h
 | .eql=>fE (mG a b) h
 | .neq=>fE (not (mG a b)) h
 | .lss=>fE (not (uo b a)) h
 | .leq=>fE (uo a b) h
 | .gtr=>fE (not (uo a b)) h
 | .geq=>fE (uo b a) h
 |_=>.bad
def VN(op:BinOp)(k:IntKind)(a b:Int)(h:Hp):R V:=
 match b with
 | .ofNat n=>(match op with
  | .shl=>iy k (k.wrap (a*2^(min n k.bits))) h
  | .shr=>iy k (a.fdiv (2^(min n k.bits))) h
  |_=>.bad)
 |_=>.bad
def aiS(op:BinOp)(s t:List Nat)(h:Hp):R V:=
 match op with
 | .add=>(match B! (s.length+t.length) 4611686018427387904 with|true=>.ok (.str (s++t)) h|false=>.bad)
 | .eql=>fE (jW s t) h
 | .neq=>fE (not (jW s t)) h
 | .lss=>fE (kP s t) h
 | .leq=>fE (or (kP s t) (jW s t)) h
 | .gtr=>fE (not (or (kP s t) (jW s t))) h
 | .geq=>fE (not (kP s t)) h
 |_=>.bad
def Pj:BinOp->Bool
 | .shl| .shr=>true
 |_=>false
def aJ(op:BinOp)(c:EqC)(x y:V)(h:Hp):R V:=
 match x with
 | .int k a=>(match y with
  | .int d b=>(match Pj op with
   |true=>VN op k a b h
   |false=>(match e! (kix k) (kix d) with|true=>aju op k a b h|false=>.bad))
  |_=>.bad)
 | .str s=>(match y with| .str t=>aiS op s t h|_=>.bad)
 |x=>(match op with
  | .eql=>aes c x y λb=>fE b h
  | .neq=>aes c x y λb=>fE (not b) h
  |_=>.bad)
def aeO(d:TypeDesc)(sz:Nat)(lit:Bool):EqC:=match d with
 | .bool=>.bool
 | .pointer _=>.ptr sz
 | .slice _=>.slice
 | .map _ _=>.map
 | .func _ _ _=>.func
 | .interface ms=>.iface (lit||ms.isEmpty)
 |_=>.none
section
variable{P:Program}{G:Nat}{M:Mp}{h h':Hp}{w:World}{r:V}
def isC:Operand->Bool
 | .const _=>true
 |_=>false
theorem BJ{op:BinOp}{t:TypeId}{f g:Operand}{a b:Value}(d:a≠ .nilIface\/b≠ .nilIface)(e:∀c,a≠ .agg c):(eqGuard op t f g a b).run P w=.ok () w:=by
 unfold eqGuard;cases op<;>first
  |rfl
  |(cases a<;>first
    |exact absurd rfl (e _)
    |rfl
    |(cases b<;>first|rfl|exact absurd d (by simp)))
theorem aB2{op:BinOp}(f:Pj op=false){t:TypeId}{k:IntKind}{a b:Int}(j:Rel G M h w)(e:aju op k a b h=.ok r h'):
  Good P G M h w (binOp op t (.int k a) (.int k b)) r h':=by
 have fin:∀(v:Int) (s:Sem Value),s.run P w=.ok (.int k v) w->iy k v h=.ok r h'->Good P G M h w s r h':=by
  intro v s g e;rw[fU]at e;cases e;exact .same j g (gB M k v)
 have c:∀(v:Bool) (s:Sem Value),s.run P w=.ok (.bool v) w->fE v h=.ok r h'->Good P G M h w s r h':=by
  intro v s g e;rw[fK]at e;cases e;exact .same j g (xP M v)
 have i:∀x y:Int,(!uo y x)=decide (x<y):=by
  intro x y;rw[QH,g!];simp
 cases op<;>simp only[Pj]at f<;>simp only[aju,zl,zu,i]at e<;>(try simp only[QH]at e)
 case add=>exact fin _ _ (by simp[binOp,M!]) e
 case sub=>exact fin _ _ (by simp[binOp,M!];rfl) e
 case mul=>exact fin _ _ (by simp[binOp,M!]) e
 case quo=>
  split at e
  ·cases e
  ·rename_i hb;have d:b≠0:=by simpa using hb
   exact fin _ _ (by simp[binOp,Op.intDiv,d]) e
 case rem=>
  split at e
  ·cases e
  ·rename_i hb;have d:b≠0:=by simpa using hb
   exact fin _ _ (by simp[binOp,Op.intDiv,d]) e
 case and=>exact fin _ _ (by simp[binOp,H!]) e
 case or=>exact fin _ _ (by simp[binOp,H!]) e
 case xor=>exact fin _ _ (by simp[binOp,H!]) e
 case andNot=>exact fin _ _ (by simp[binOp,H!]) e
 case eql=>exact c _ _ (by simp[binOp,D!]) e
 case neq=>exact c _ _ (by simp[binOp,D!,bne]) e
 case lss=>exact c _ _ (by simp[binOp,D!]) e
 case leq=>exact c _ _ (by simp[binOp,D!]) e
 case gtr=>exact c _ _ (by simp[binOp,D!]) e
 case geq=>exact c _ _ (by simp[binOp,D!]) e
 all_goals cases e
theorem axp{op:BinOp}(c:Pj op=true){t:TypeId}{k g:IntKind}{a b:Int}(f:Rel G M h w)(e:VN op k a b h=.ok r h'):
  Good P G M h w (binOp op t (.int k a) (.int g b)) r h':=by
 cases b with
 |negSucc n=>cases e
 |ofNat n=>
  simp only[VN]at e;have d:¬Int.ofNat n<0:=by simp
  cases op<;>simp only[Pj,Bool.false_eq_true]at c<;>simp only[fU]at e<;>cases e
  ·exact .same f (by simp only[binOp,Op.shift,d,if_false];rfl) (gB M k _)
  ·exact .same f (by simp only[binOp,Op.shift,d,if_false];rfl) (gB M k _)
theorem aym(s t:List Nat):bts s++bts t=bts (s++t):=by
 apply ByteArray.ext;simp[bts]
theorem aBx{op:BinOp}{t:TypeId}{s u:List Nat}(d:∀b∈s,b<256)(f:∀b∈u,b<256)(g:Rel G M h w)(e:aiS op s u h=.ok r h'):
  Good P G M h w (binOp op t (.string (bts s)) (.string (bts u))) r h':=by
 have a:∀(v:Bool) (s:Sem Value),s.run P w=.ok (.bool v) w->fE v h=.ok r h'->Good P G M h w s r h':=by
  intro v s d e;rw[fK]at e;cases e;exact .same g d (xP M v)
 have e1:=XT d f;have e2:=apJ d f;have b1:=ajJ s;have b2:=ajJ u;cases op<;>simp only[aiS,e1,e2]at e
 case add=>
  split at e
  ·rename_i hl;cases e;have i:s.length+u.length<4611686018427387904:=by simpa[v!]using hl
   have j:¬(((bts s).size+(bts u).size:Nat):Int)>w!.max:=by
    rw[kW,kW];simp only[IntKind.max,IntKind.signed,IntKind.bits,if_true];omega
   refine .same g (c:=.string (bts (s++u))) ?_ (PX (λb hb=>?_))
   ·simp only[binOp,q!,j,if_false,aym];rfl
   ·rcases List.mem_append.1 hb with hb|hb
    ·exact d b hb
    ·exact f b hb
  ·cases e
 case eql=>exact a _ _ (by simp only[binOp,q!,b1,b2];rfl) e
 case neq=>exact a _ _ (by simp only[binOp,q!,b1,b2];rfl) e
 case lss=>exact a _ _ (by simp only[binOp,q!,b1,b2];rfl) e
 case leq=>exact a _ _ (by simp only[binOp,q!,b1,b2];rfl) e
 case gtr=>exact a _ _ (by simp only[binOp,q!,b1,b2];rfl) e
 case geq=>exact a _ _ (by simp only[binOp,q!,b1,b2];rfl) e
 all_goals cases e
theorem ai2{t:TypeId}{ms:Array (String×TypeId)}(g:P.underlying t=some (.interface ms)){op:BinOp}{a b:Operand}
  (hl:((isC a||isC b)||ms.isEmpty)=true):(eqGuard op t a b .nilIface .nilIface).run P w=.ok () w:=by
 by_cases c:(isC a||isC b)=true
 ·unfold eqGuard;cases a<;>cases b<;>first
   |(simp[isC]at c;done)
   |(cases op<;>rfl)
 ·have e:ms.isEmpty=true:=by
   cases e:ms.isEmpty
   ·rw[e,Bool.or_false]at hl;exact absurd hl c
   ·rfl
  have f:∀n,(Q! (n+1) t .nilIface .nilIface).run P w=.ok false w:=λn=>by
   simp[Q!,run_underlying g,e]
  have d:(Q! l? t .nilIface .nilIface).run P w=.ok false w:=by rw[show l?=9999+1 from rfl];exact f 9999
  clear f;unfold eqGuard;cases a<;>cases b<;>first
   |(exfalso;exact c rfl)
   |(cases op<;>first|rfl|simp[d])
set_option maxHeartbeats 2000000 in
theorem apS{d:TypeDesc}{t:TypeId}{sz:Nat}{J N:Operand}(f:P.underlying t=some d)(D:∀e,d=.pointer e->∃ti,P.info? e=some ti/\ti.size=sz)
  {x y:V} {a b:Value} (s:Rp M x a) (l:Rp M y b) {k:Bool->R V} (e:aes (aeO d sz (isC J||isC N)) x y k=.ok r h'):
  ∃q,k q=.ok r h'/\(∀op,(eqGuard op t J N a b).run P w=.ok () w)/\(U! t a b).run P w=.ok q w/\(∀c,a≠ .agg c)/\
   (∀op z,(op=.eql->binOp op t a b=(do pure (.bool (<-U! t a b))))/\(op=.neq->z=0->binOp op t a b=(do pure (.bool (!(<-U! t a b)))))):=by
 have g:∀{a b:Value} {q:Bool},(∀n,(a! (n+1) t a b).run P w=.ok q w)->(U! t a b).run P w=.ok q w:=λh=>h 9999;have pl:∀{a b:Value},(a≠ .nilIface\/b≠ .nilIface)->(∀c,a≠ .agg c)->∀op,(eqGuard op t J N a b).run P w=.ok () w:=λS U op=>BJ S U;cases d<;>simp only[aeO,aes]at e
 case bool=>
  split at e
  ·cases s.bool;cases l.bool;rename_i p q;refine⟨_,e,pl (.inl (by simp)) (by simp),g (λn=>?_),by simp,λop z=>⟨λh=>by subst h;rfl,λh _=>by subst h;rfl⟩⟩;cases p<;>cases q<;>simp[a!,run_underlying f]
  ·cases e
 case pointer el=>
  obtain⟨ti,E,H⟩:=D el rfl;split at e
  ·cases s.bP;split at e
   ·cases l.bP;exact⟨_,e,pl (.inl (by simp)) (by simp),g (λn=>by simp[a!,run_underlying f]),by simp,λop z=>⟨λh=>by subst h;rfl,λh _=>by subst h;rfl⟩⟩
   ·obtain⟨L,Q,rfl⟩:=l.ptr;exact⟨_,e,pl (.inl (by simp)) (by simp),g (λn=>by simp[a!,run_underlying f]),by simp,λop z=>⟨λh=>by subst h;rfl,λh _=>by subst h;rfl⟩⟩
   ·cases e
  ·rename_i i o;obtain⟨L,Q,rfl⟩:=s.ptr;split at e
   ·cases l.bP;exact⟨_,e,pl (.inl (by simp)) (by simp),g (λn=>by simp[a!,run_underlying f]),by simp,λop z=>⟨λh=>by subst h;rfl,λh _=>by subst h;rfl⟩⟩
   ·rename_i j p;obtain⟨K,O,rfl⟩:=l.ptr;split at e
    ·rename_i W B;have u:=Pos.eq_iff.1 B;subst u;rw[Q]at O;cases O;have C:ti.size≠0:=by rw[H];exact o! W
     refine⟨_,e,pl (.inl (by simp)) (by simp),g (λn=>?_),by simp,λop z=>⟨λh=>by subst h;rfl,λh _=>by subst h;rfl⟩⟩;have hb:(({block:=L.blk,off:=L.off+o,spot:=none}:Addr)=={block:=L.blk,off:=L.off+p,spot:=none})=e! o p:=by
      rw[g!];simp[N!]
     simp[a!,run_underlying f,sizeOf,typeInfo,E,C,sameAddr,Loc.at,hb]
    ·cases e
   ·cases e
  ·cases e
 case slice el=>
  split at e
  ·cases s.aQ;cases l.aQ;exact⟨_,e,pl (.inl (by simp)) (by simp),g (λn=>by simp[a!,run_underlying f]),by simp,λop z=>⟨λh=>by subst h;rfl,λh _=>by subst h;rfl⟩⟩
  ·cases s.aQ;obtain⟨L,m,_,_,rfl⟩:=l.slice;exact⟨_,e,pl (.inl (by simp)) (by simp),g (λn=>by simp[a!,run_underlying f]),by simp,λop z=>⟨λh=>by subst h;rfl,λh _=>by subst h;rfl⟩⟩
  ·cases s.aQ;obtain⟨L,m,rfl⟩:=l.emp;exact⟨_,e,pl (.inl (by simp)) (by simp),g (λn=>by simp[a!,run_underlying f]),by simp,λop z=>⟨λh=>by subst h;rfl,λh _=>by subst h;rfl⟩⟩
  ·cases l.aQ;obtain⟨L,m,_,_,rfl⟩:=s.slice;exact⟨_,e,pl (.inl (by simp)) (by simp),g (λn=>by simp[a!,run_underlying f]),by simp,λop z=>⟨λh=>by subst h;rfl,λh _=>by subst h;rfl⟩⟩
  ·cases l.aQ;obtain⟨L,m,rfl⟩:=s.emp;exact⟨_,e,pl (.inl (by simp)) (by simp),g (λn=>by simp[a!,run_underlying f]),by simp,λop z=>⟨λh=>by subst h;rfl,λh _=>by subst h;rfl⟩⟩
  ·cases e
 case map Y X=>
  split at e
  ·cases s.jG;cases l.jG;exact⟨_,e,pl (.inl (by simp)) (by simp),g (λn=>by simp[a!,run_underlying f]),by simp,λop z=>⟨λh=>by subst h;rfl,λh _=>by subst h;rfl⟩⟩
  ·cases s.jG;obtain⟨L,_,rfl⟩:=l.map;exact⟨_,e,pl (.inl (by simp)) (by simp),g (λn=>by simp[a!,run_underlying f]),by simp,λop z=>⟨λh=>by subst h;rfl,λh _=>by subst h;rfl⟩⟩
  ·cases l.jG;obtain⟨L,_,rfl⟩:=s.map;exact⟨_,e,pl (.inl (by simp)) (by simp),g (λn=>by simp[a!,run_underlying f]),by simp,λop z=>⟨λh=>by subst h;rfl,λh _=>by subst h;rfl⟩⟩
  ·cases e
 case func ps Z v=>
  split at e
  ·cases s.fV;cases l.fV;exact⟨_,e,pl (.inl (by simp)) (by simp),g (λn=>by simp[a!,run_underlying f]),by simp,λop z=>⟨λh=>by subst h;rfl,λh _=>by subst h;rfl⟩⟩
  ·cases s.fV;obtain⟨_,_,_,_,_,_,rfl⟩:=l.func;exact⟨_,e,pl (.inl (by simp)) (by simp),g (λn=>by simp[a!,run_underlying f]),by simp,λop z=>⟨λh=>by subst h;rfl,λh _=>by subst h;rfl⟩⟩
  ·cases l.fV;obtain⟨_,_,_,_,_,_,rfl⟩:=s.func;exact⟨_,e,pl (.inl (by simp)) (by simp),g (λn=>by simp[a!,run_underlying f]),by simp,λop z=>⟨λh=>by subst h;rfl,λh _=>by subst h;rfl⟩⟩
  ·cases e
 case interface ms=>
  split at e
  ·cases s.nP;cases l.nP;split at e
   ·rename_i hl;refine⟨_,e,λop=>?_,g (λn=>by simp[a!,run_underlying f]),by simp,λop z=>⟨λh=>by subst h;rfl,λh _=>by subst h;rfl⟩⟩;exact ai2 f hl
   ·cases e
  ·cases s.nP;obtain⟨_,_,rfl⟩:=l.iface;exact⟨_,e,pl (.inr (by simp)) (by simp),g (λn=>by simp[a!,run_underlying f]),by simp,λop z=>⟨λh=>by subst h;rfl,λh _=>by subst h;rfl⟩⟩
  ·cases l.nP;obtain⟨_,_,rfl⟩:=s.iface;exact⟨_,e,pl (.inl (by simp)) (by simp),g (λn=>by simp[a!,run_underlying f]),by simp,λop z=>⟨λh=>by subst h;rfl,λh _=>by subst h;rfl⟩⟩
  ·obtain⟨_,_,rfl⟩:=s.iface;obtain⟨_,_,rfl⟩:=l.iface;split at e
   ·rename_i I;have:¬_=_:=o! I;exact⟨_,e,pl (.inl (by simp)) (by simp),g (λn=>by simp[a!,run_underlying f,this]),by simp,λop z=>⟨λh=>by subst h;rfl,λh _=>by subst h;rfl⟩⟩
   ·cases e
  ·cases e
 all_goals cases e
theorem aIu{op:BinOp}{t:TypeId}{d:TypeDesc}{sz:Nat}{m n:Operand}(u:P.underlying t=some d)(j:∀e,d=.pointer e->∃ti,P.info? e=some ti/\ti.size=sz)
  {x y:V} {a b:Value} (i:Rel G M h w) (k:Rp M x a) (l:Rp M y b) (e:aJ op (aeO d sz (isC m||isC n)) x y h=.ok r h'):
  Good P G M h w (do eqGuard op t m n a b;binOp op t a b) r h':=by
 have f:∀{s:Sem Value},(eqGuard op t m n a b).run P w=.ok () w->Good P G M h w s r h'->Good P G M h w (do eqGuard op t m n a b;s) r h':=by
  rintro s g ⟨c,w',M',v,z⟩;exact⟨c,w',M',by simp[g,v],z⟩
 unfold aJ at e;split at e
 ·cases k.int;split at e
  ·cases l.int;refine f (BJ (.inl (by simp)) (by simp)) ?_;split at e
   ·rename_i p;exact axp p i e
   ·rename_i p;split at e
    ·rename_i B;cases Jf B;exact aB2 p i e
    ·cases e
  ·cases e
 ·cases k.str.2;split at e
  ·cases l.str.2;refine f (BJ (.inl (by simp)) (by simp)) ?_;exact aBx k.str.1 l.str.1 i e
  ·cases e
 ·split at e
  ·obtain⟨q,e,g,o,_,hb⟩:=apS (w:=w) u j k l e;rw[fK]at e;cases e;refine f (g _) (.same i ?_ (xP M q));rw[(hb .eql 0).1 rfl];simp[o]
  ·obtain⟨q,e,g,o,_,hb⟩:=apS (w:=w) u j k l e;rw[fK]at e;cases e;refine f (g _) (.same i ?_ (xP M _));rw[(hb .neq 0).2 rfl rfl];simp[o]
  ·cases e
def apf(c a b:V)(h:Hp):R V:=asBool c λq=>match q with|true=>.ok a h|false=>.ok b h
def aN(x:V)(h:Hp):R V:=match x with
 | .bP| .nP| .fV=>.bad
 | .func fn a b=>(match fn with| .method _=>.bad|_=>.ok (.func fn a b) h)
 |x=>.ok x h
def axL(n:Nat)(l:V):Option V:=
 J! (motive:=λ_=>V->Option V) (λl=>match l with| .cons a _=>some a|_=>none) (λ_ b l=>match l with| .cons _ t=>b t|_=>none) n l
theorem au4(n:Nat):∀l:V,axL n l=l.list[n]?:=by
 induction n with
 |zero=>intro l;cases l<;>rfl
 |succ n a=>intro l;cases l<;>first|exact a _|rfl
def dA(n:Nat)(x:V)(h:Hp):R V:=match x with
 | .tuple l=>(match axL n l with|some v=>.ok v h|none=>.bad)
 |_=>.bad
def oUn(op:UnOp)(x:V)(h:Hp):R V:=match op with
 | .neg=>asInt x λk n=>iy k (vO k (Int.sub 0 n)) h
 | .xor=>asInt x λk n=>iy k (k.wrap (d! k.bits (if k.signed then -1 else k.max)^^^d! k.bits n).toNat) h
 | .not=>asBool x λb=>fE (not b) h
 | .plus=>.bad
def kT(k:IntKind)(x:V)(h:Hp):R V:=asInt x λ_ n=>iy k (vO k n) h
def QB(x:V)(h:Hp):R V:=match x with| .str s=>.ok (.str s) h|_=>.bad
def aqn(t:TypeId)(x:V)(h:Hp):R V:=.ok (.iface t x) h
def eP(fn:Fn)(f c:List V)(h:Hp):R V:=match alQ fn with|true=>.ok (.func fn (V.ofList f) (V.ofList c)) h|false=>.bad
def aC(off:Nat)(x:V)(h:Hp):R V:=rP x λi o=>dY (o+off) λq=>.ok (.ptr i q) h
def bJ(sz:Nat)(x i:V)(h:Hp):R V:=kY i λk=>match x with
 | .slice i o n _=>(match B! k n with|true=>dY (o+k*sz) λq=>.ok (.ptr i q) h|false=>.bad)
 |_=>.bad
def axI(len sz:Nat)(x i:V)(h:Hp):R V:=kY i λk=>rP x λi o=>
 match B! k len with|true=>dY (o+k*sz) λq=>.ok (.ptr i q) h|false=>.bad
def aBQ(n:Nat)(l:List Nat):Option Nat:=
 J! (motive:=λ_=>List Nat->Option Nat) (λl=>k! l none (λa _=>some a)) (λ_ b l=>k! l none (λ_ t=>b t)) n l
theorem au3(n:Nat):∀l:List Nat,aBQ n l=l[n]?:=by
 induction n with
 |zero=>intro l;cases l<;>rfl
 |succ n b=>intro l;cases l with
  |nil=>rfl
  |cons a t=>exact(b t).trans (by simp)
def mX(x i:V)(h:Hp):R V:=kY i λk=>match x with
 | .str s=>(match aBQ k s with|some b=>.ok (.int .u8 (.ofNat b)) h|none=>.bad)
 |_=>.bad
def axF(a:Bool)(sz off:Nat)(x:V)(h:Hp):R V:=match x with
 | .agg l=>(match a with
  |false=>(match axL off l with|some v=>.ok v h|none=>.bad)
  |true=>(match gm sz (fB off l.list) with|some vs=>.ok (.agg (V.ofList vs)) h|none=>.bad))
 |_=>.bad
theorem atC{x:V}{a:Value}(j:Rp M x a)(e:aN x h=.ok r h'):r=x/\h'=h/\
  (∀ρ o op,o.op=.nilCheck op->ρ op=a->(execOp ρ o).run P w=.ok (.value a) w):=by
 have fin:∀{x:V} {a:Value},(R.ok x h:R V)=.ok r h'->(∀ρ o op,o.op=Op.nilCheck op->ρ op=a->(execOp ρ o).run P w=.ok (.value a) w)->
   r=x/\h'=h/\(∀ρ o op,o.op=.nilCheck op->ρ op=a->(execOp ρ o).run P w=.ok (.value a) w):=by
  intro x a e hh;cases e;exact⟨rfl,rfl,hh⟩
 cases x with
 |bP=>cases e
 |nP=>cases e
 |fV=>cases e
 |func fn p q=>
  obtain⟨g,_,_,u,_,_,rfl⟩:=j.func;cases fn with
  |method n=>cases e
  |yield k=>obtain⟨L,_,rfl⟩:=u;exact fin e (λ ρ o op d c=>by simp only[execOp,d,c];rfl)
  |func f=>obtain rfl:g=.func f:=u;exact fin e (λ ρ o op d c=>by simp only[execOp,d,c];rfl)
  |methodOf t n=>obtain rfl:g=.methodOf t n:=u;exact fin e (λ ρ o op d c=>by simp only[execOp,d,c];rfl)
  |via t y f b=>obtain rfl:g=.via t y f b:=u;exact fin e (λ ρ o op d c=>by simp only[execOp,d,c];rfl)
 |nil=>cases j.1
 |cons a b=>cases j.1
 |bool b=>cases j.bool;exact fin e (λ ρ o op d c=>by simp only[execOp,d,c];rfl)
 |int k n=>cases j.int;exact fin e (λ ρ o op d c=>by simp only[execOp,d,c];rfl)
 |str s=>cases j.str.2;exact fin e (λ ρ o op d c=>by simp only[execOp,d,c];rfl)
 |ptr i o=>obtain⟨L,_,rfl⟩:=j.ptr;exact fin e (λ ρ o op d c=>by simp only[execOp,d,c];rfl)
 |slice i o n k=>obtain⟨L,m,_,_,rfl⟩:=j.slice;exact fin e (λ ρ o op d c=>by simp only[execOp,d,c];rfl)
 |aQ=>cases j.aQ;exact fin e (λ ρ o op d c=>by simp only[execOp,d,c];rfl)
 |emp=>obtain⟨_,_,rfl⟩:=j.emp;exact fin e (λ ρ o op d c=>by simp only[execOp,d,c];rfl)
 |map i=>obtain⟨L,_,rfl⟩:=j.map;exact fin e (λ ρ o op d c=>by simp only[execOp,d,c];rfl)
 |jG=>cases j.jG;exact fin e (λ ρ o op d c=>by simp only[execOp,d,c];rfl)
 |iface t v=>obtain⟨_,_,rfl⟩:=j.iface;exact fin e (λ ρ o op d c=>by simp only[execOp,d,c];rfl)
 |agg l=>obtain⟨_,_,_,rfl⟩:=j.agg;exact fin e (λ ρ o op d c=>by simp only[execOp,d,c];rfl)
 |tuple l=>obtain⟨_,_,rfl⟩:=j.tuple;exact fin e (λ ρ o op d c=>by simp only[execOp,d,c];rfl)
theorem ax4{n:Nat}{x:V}{a:Value}(f:Rel G M h w)(g:Rp M x a)(e:dA n x h=.ok r h'):Good P G M h w (Y! a n) r h':=by
 unfold dA at e;split at e
 ·obtain⟨l,hl,rfl⟩:=g.tuple;split at e
  ·rename_i v d;cases e;rw[au4]at d;obtain⟨y,i,b⟩:=hl.get d;exact .same f (c:=y) (by simp[Y!,i]) b
  ·cases e
 ·cases e
theorem aJ7{op:UnOp}{x:V}{a:Value}(c:Rel G M h w)(d:Rp M x a)(e:oUn op x h=.ok r h'):Good P G M h w (T! op a) r h':=by
 cases op
 case neg=>
  obtain⟨k,n,rfl,e1⟩:=D5 e;cases d.int;rw[fU,zl]at e1;cases e1;exact .same c (by simp[T!,M!,show Int.sub 0 n=0 - n from rfl]) (gB M k _)
 case xor=>
  obtain⟨k,n,rfl,e1⟩:=D5 e;cases d.int;rw[fU]at e1;cases e1;exact .same c (by simp[T!,H!]) (gB M k _)
 case not=>
  obtain⟨b,rfl,e1⟩:=an0 e;cases d.bool;rw[fK]at e1;cases e1;exact .same c (by simp[T!]) (xP M _)
 case plus=>cases e
theorem ayf{s d:TypeId}{ds:TypeDesc}{k:IntKind}(f:P.underlying s=some ds)(b:P.underlying d=some (.int k)){x:V}{a:Value}(c:Rel G M h w)(g:Rp M x a)(e:kT k x h=.ok r h'):
  Good P G M h w (convert s d a) r h':=by
 obtain⟨i,n,rfl,e1⟩:=D5 e;cases g.int;rw[fU,zl]at e1;cases e1;exact .same c (by simp[convert,run_underlying f,run_underlying b,Conv.intToInt]) (gB M k _)
theorem aye{s d:TypeId}{ds:TypeDesc}(i:P.underlying s=some ds)(f:P.underlying d=some .string){x:V}{a:Value}(g:Rel G M h w)(b:Rp M x a)(e:QB x h=.ok r h'):
  Good P G M h w (convert s d a) r h':=by
 unfold QB at e;split at e
 ·cases b.str.2;cases e;refine .same g (c:=.string (bts _)) ?_ b;simp only[convert,u!,run_underlying i,run_underlying f,l!];cases ds<;>rfl
 ·cases e
theorem aB5{t:TypeId}{d:TypeDesc}(g:P.underlying t=some d)(b:∀ms,d≠ .interface ms){x:V}{a:Value}(i:Rel G M h w)(f:Rp M x a)(e:aqn t x h=.ok r h'):
  Good P G M h w (S! t a) r h':=by
 cases e;refine .same i (c:=.iface t a) ?_ ⟨rfl,a,f.1,f.2,rfl⟩;simp only[S!,u!,run_underlying g,l!];cases d<;>first|rfl|exact absurd rfl (b _)
theorem aEx{fn:Fn}{f c:List V}{x y:List Value}(g:Rel G M h w)(b:bU M f x)(a:bU M c y)(e:eP fn f c h=.ok r h'):
  Good P G M h w (Instr.makeFunc fn x.toArray y.toArray) r h':=by
 unfold eP at e;split at e
 ·rename_i d;cases e;exact .same g (c:=.func fn x.toArray y.toArray) rfl ⟨rfl,fn,x,y,.plain M d,⟨V.dO f,V.dO c⟩,b.to,a.to,rfl⟩
 ·cases e
theorem Loc.FO(L:Loc)(o n:Nat):(L.at o).add n=L.at (o+n):=by
 unfold Loc.at Addr.add;split
 ·simp_all
 ·simp[a?]
theorem aq5{t:TypeId}{d:Array Field}{n:Nat}{f:Field}{ti:TypeInfo}(l:P.underlying t=some (.struct d))(j:d[n]?=some f)(b:P.info? f.type=some ti)(p:ti.size≠0)
  {x:V} {a:Value} (k:Rel G M h w) (m:Rp M x a) (e:aC f.offset x h=.ok r h'):Good P G M h w (X! t a n) r h':=by
 obtain⟨i,o,rfl,e1⟩:=kX e;obtain⟨L,g,rfl⟩:=m.ptr;rw[dF]at e1;cases e1;refine .same k (c:=.pointer (some (L.at (o+f.offset)))) ?_ (xg g _);simp[X!,run_underlying l,j,n!,fieldPlace,sizeOf,typeInfo,b,p,Loc.FO]
theorem aEs{t el:TypeId}{ti:TypeInfo}(p:P.underlying t=some (.slice el))(g:P.info? el=some ti){x i:V}{a b:Value}(l:Rel G M h w)(q:Rp M x a)(hi:Rp M i b)(e:bJ ti.size x i h=.ok r h'):
  Good P G M h w (C! t a b) r h':=by
 obtain⟨k,n,rfl,e1⟩:=oH e;clear e;cases hi.int;have e:=e1;clear e1;split at e
 ·rename_i i o len cap;obtain⟨L,m,j,_,rfl⟩:=q.slice;split at e
  ·rename_i f;rw[dF]at e;cases e;have d:n<len:=by simpa[v!]using f
   refine .same l (c:=.pointer (some (L.at (o+n*ti.size)))) ?_ (xg j _);simp[C!,asIntOf,run_underlying p,d,sizeOf,typeInfo,g,Loc.FO]
  ·cases e
 ·cases e
theorem aEu{t el:TypeId}{len:Nat}{ti:TypeInfo}(m:P.underlying t=some (.array len el))(g:P.info? el=some ti){x i:V}{a b:Value}(l:Rel G M h w)(p:Rp M x a)(hi:Rp M i b)(e:axI len ti.size x i h=.ok r h'):
  Good P G M h w (C! t a b) r h':=by
 obtain⟨k,n,rfl,e1⟩:=oH e;clear e;cases hi.int;obtain⟨i,o,rfl,e⟩:=kX e1;clear e1;obtain⟨L,j,rfl⟩:=p.ptr;split at e
 ·rename_i f;rw[dF]at e;cases e;have d:n<len:=by simpa[v!]using f
  refine .same l (c:=.pointer (some (L.at (o+n*ti.size)))) ?_ (xg j _);simp[C!,asIntOf,run_underlying m,n!,d,sizeOf,typeInfo,g,Loc.FO]
 ·cases e
theorem azt{t:TypeId}(o:P.underlying t=some .string){x i:V}{a b:Value}(l:Rel G M h w)(p:Rp M x a)(hi:Rp M i b)(e:mX x i h=.ok r h'):
  Good P G M h w (b? t a b) r h':=by
 obtain⟨k,n,rfl,e1⟩:=oH e;clear e;cases hi.int;have e:=e1;clear e1;split at e
 ·rename_i s;obtain⟨m,rfl⟩:=p.str;split at e
  ·rename_i c d;cases e;rw[au3]at d;have hb:(bts s)[n]?=some (UInt8.ofNat c):=by
    have g:n<s.length:=(r!.1 d).1;have:(bts s).data[n]?=some (UInt8.ofNat c):=by simp[bts,d]
    rw[getElem?_pos (bts s) n (by rw[kW];exact g)];have j:=(b!.1 this).2;exact congrArg some j
   have f:=PO (m c (p! d));refine .same l (c:=.int .u8 (.ofNat c)) ?_ (gB M _ _);simp[b?,asIntOf,run_underlying o,hb,f]
  ·cases e
 ·cases e
end
end Go.Vm
