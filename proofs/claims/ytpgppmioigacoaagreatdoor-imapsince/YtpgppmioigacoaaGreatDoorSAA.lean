/- Lemmas that the claim's last text uses. No conditions. -/
import Derived.Orders
import Derived.Laws.CopyRow
import Derived.Laws.IdiomCopy
import Derived.ArgAppend
import Derived.Laws.Append
import Derived.Below
import Derived.IntWalk
import Derived.Laws.Strings
import Derived.LaidEql
set_option linter.all false
open Go.Op renaming equalIn→a!,stringOp→q!,intCmp→D!,intBits→H!,intArith→M!,eqGuardIn→Q!,unary→T!,equal→U!,bytesLess→i?,maxDepth→l?
open Array renaming getElem?_eq_some_iff→b!,getElem?_setIfInBounds_self_of_lt→x!,getElem?_setIfInBounds_ne→I!,getElem?_modify→P!
open Go.Value renaming cells→c!
open BitVec renaming ofInt→d!
open Nat renaming beq→e!,eq_of_beq_eq_true→h!,le_refl→j!,ne_of_beq_eq_false→o!,blt_eq→v!,blt→B!,lt_of_lt_of_le→F!,rec→J!,le_trans→K!,beq_eq→N!,add_assoc→a?,sub_self→d?,add_zero→e?
open Bool renaming eq_iff_iff→g!
open Option renaming casesOn→i!
open List renaming casesOn→k!,mem_of_getElem?→p!,getElem?_eq_some_iff→r!,getElem?_eq_getElem→t!,getElem?_take→E!,getElem?_append→R!,getElem?_drop→V!,map_cons→Z!
open Go.Result renaming andThen_ok→l!
open Go.Instr renaming sureAddr→n!,indexAt→C!,loadAt→G!,storeAt→O!,makeInterface→S!,fieldAt→X!,extract→Y!,index→b?,box→k?
open Go.Sem renaming run_bind→u!,run_pure→c?
open Go.IntKind renaming i64→w!
open Go.World renaming setCells→y!,setCell→A!,cell?→L!,frozen?→W!
open Go.RowKit.Below renaming heap_setCell→z!
noncomputable section
namespace Go.Vm
inductive Pos where
 |h
 |o (p:Pos)
 |i (p:Pos)
 deriving Inhabited
end Go.Vm
namespace Go.Vm.Pos
def nat:Pos->Nat
 | .h=>0
 | .o p=>2*p.nat+1
 | .i p=>2*p.nat+2
def succ:Pos->Pos
 | .h=>.o .h
 | .o p=>.i p
 | .i p=>.o p.succ
theorem fG(p:Pos):p.succ.nat=p.nat+1:=by
 induction p with
 |h=>rfl
 |o p a=>simp[succ,nat]
 |i p a=>simp only[succ,nat,a];omega
theorem yx{p q:Pos}(h:p.nat=q.nat):p=q:=by
 induction p generalizing q with
 |h=>cases q<;>simp[nat]at h⊢
 |o p a=>cases q with
  |h=>simp[nat]at h
  |o q=>rw[a (q:=q) (by simp[nat]at h;omega)]
  |i q=>simp[nat]at h;omega
 |i p a=>cases q with
  |h=>simp[nat]at h
  |o q=>simp[nat]at h;omega
  |i q=>rw[a (q:=q) (by simp[nat]at h;omega)]
def eq:Pos->Pos->Bool
 | .h,.h=>true
 | .o p,.o q=>p.eq q
 | .i p,.i q=>p.eq q
 |_,_=>false
theorem eq_iff{p q:Pos}:p.eq q=true↔p=q:=by
 induction p generalizing q with
 |h=>cases q<;>simp[eq]
 |o p a=>cases q<;>simp[eq,a]
 |i p a=>cases q<;>simp[eq,a]
theorem eq_false{p q:Pos}:p.eq q=false↔p≠q:=by
 rw[<-Bool.not_eq_true,eq_iff]
instance:DecidableEq Pos:=λ_ _=>decidable_of_iff _ eq_iff
theorem eq_self(p:Pos):p.eq p=true:=eq_iff.2 rfl
def XO:Nat->Nat->Pos
 |0,_=>.h
 |_+1,0=>.h
 |f+1,n+1=>cond (e! (n % 2) 0) (.o (XO f (n / 2))) (.i (XO f (n / 2)))
def of(n:Nat):Pos:=XO n n
theorem aAO(f n:Nat)(h:n<=f):(XO f n).nat=n:=by
 induction f generalizing n with
 |zero=>simp[XO,nat];omega
 |succ f a=>
  cases n with
  |zero=>rfl
  |succ n=>
   simp only[XO];cases hb:e! (n % 2) 0 with
   |true=>
    have:n % 2=0:=h! hb;simp only[cond_true,nat,a (n / 2) (by omega)];omega
   |false=>
    have:n % 2≠0:=o! hb;simp only[cond_false,nat,a (n / 2) (by omega)];omega
theorem gV(n:Nat):(of n).nat=n:=aAO n n (j! n)
theorem aem{m n:Nat}(h:of m=of n):m=n:=by
 have:=congrArg nat h;rwa[gV,gV]at this
end Go.Vm.Pos
namespace Go.Vm
inductive T (α:Type) where
 |nil
 |node (v:Option α) (l r:T α)
 deriving Inhabited
end Go.Vm
namespace Go.Vm.T
section
variable{α:Type}
def val(t:T α):Option α:=T.casesOn t none (λv _ _=>v)
def left(t:T α):T α:=T.casesOn t .nil (λ_ l _=>l)
def right(t:T α):T α:=T.casesOn t .nil (λ_ _ r=>r)
def get(t:T α)(p:Pos):Option α:=
 Pos.rec (motive:=λ_=>T α->Option α) (λt=>T.casesOn t none (λv _ _=>v))
  (λ_ a t=>T.casesOn t none (λ_ l _=>a l)) (λ_ a t=>T.casesOn t none (λ_ _ r=>a r)) p t
def set(x:Option α)(p:Pos)(t:T α):T α:=
 Pos.rec (motive:=λ_=>T α->T α)
  (λt=>T.casesOn t (.node x .nil .nil) (λ_ l r=>.node x l r))
  (λ_ a t=>T.casesOn t (.node none (a .nil) .nil) (λv l r=>.node v (a l) r))
  (λ_ a t=>T.casesOn t (.node none .nil (a .nil)) (λv l r=>.node v l (a r))) p t
theorem get_nil(p:Pos):(T.nil:T α).get p=none:=by cases p<;>rfl
theorem oI(x:Option α)(p:Pos)(t:T α):(t.set x p).get p=x:=by
 induction p generalizing t with
 |h=>cases t<;>rfl
 |o p a=>cases t with
  |nil=>exact a .nil
  |node v l r=>exact a l
 |i p a=>cases t with
  |nil=>exact a .nil
  |node v l r=>exact a r
theorem sU(x:Option α){p q:Pos}(a:q≠p)(t:T α):(t.set x p).get q=t.get q:=by
 induction p generalizing q t with
 |h=>cases q with
  |h=>exact absurd rfl a
  |o q=>cases t<;>first|rfl|exact get_nil q
  |i q=>cases t<;>first|rfl|exact get_nil q
 |o p c=>cases q with
  |h=>cases t<;>rfl
  |o q=>
   have b:q≠p:=λe=>a (by rw[e]);cases t with
   |nil=>exact(c b .nil).trans (get_nil q)
   |node v l r=>exact c b l
  |i q=>cases t<;>first|rfl|exact get_nil q
 |i p c=>cases q with
  |h=>cases t<;>rfl
  |o q=>cases t<;>first|rfl|exact get_nil q
  |i q=>
   have b:q≠p:=λe=>a (by rw[e]);cases t with
   |nil=>exact(c b .nil).trans (get_nil q)
   |node v l r=>exact c b r
end
end Go.Vm.T
namespace Go.Vm
inductive Cap where
 |kn (c:Nat)
 |un (sz:Nat)
 deriving Inhabited
inductive V where
 |bool (b:Bool)
 |int (k:IntKind) (n:Int)
 |str (s:List Nat)
 |ptr (i:Pos) (o:Nat)
 |bY
 |slice (i:Pos) (o len:Nat) (cap:Cap)
 |aO
 |emp
 |map (i:Pos)
 |jW
 |func (fn:Fn) (first captured:V)
 |iH
 |iface (t:TypeId) (v:V)
 |oH
 |agg (l:V)
 |tuple (l:V)
 |nil
 |cons (a b:V)
 deriving Inhabited
def V.undef:V:=.tuple .nil
def V.list:V->List V
 | .cons a b=>a::b.list
 |_=> []
def V.ofList:List V->V
 | []=>.nil
 |a::l=>.cons a (V.ofList l)
def V.isRow:V->Bool
 | .nil| .cons _ _=>true
 |_=>false
theorem V.bW(l:List V):(V.ofList l).list=l:=by induction l<;>simp[V.ofList,V.list, *]
def V.cells:V->List V
 | .agg l=>l.list
 |v=> [v]
inductive Wr where
 |ro
 |rw (t:TypeId) (full:Bool)
def Wr.own:Wr->Bool
 | .ro=>false
 | .rw _ _=>true
inductive Ob where
 |cells (w:Wr) (cs:List V)
 |map (es:List (V×V))
 |iter (s:List Nat) (pos:Nat)
 |bytes (cs:List V)
def Ob.row:Ob->Option (Wr×List V)
 | .cells w cs=>some (w,cs)
 | .bytes cs=>some (.ro,cs)
 |_=>none
def Ob.own:Ob->Bool
 | .cells w _=>w.own
 |_=>true
structure Hp where
 t:T Ob
 next:Pos
noncomputable def Hp.get(h:Hp)(i:Pos):Option Ob:=h.t.get i
noncomputable def Hp.put(h:Hp)(i:Pos)(o:Option Ob):Hp:=⟨h.t.set o i,h.next⟩
noncomputable def Hp.new(h:Hp)(o:Ob):Hp:=⟨h.t.set (some o) h.next,h.next.succ⟩
inductive R (α:Type) where
 |ok (a:α) (h:Hp)
 |bad
structure Loc where
 blk:Nat
 off:Nat
 size:Nat
def Loc.at(L:Loc)(o:Nat):Addr:=⟨L.blk,L.off+o,none⟩
abbrev Mp:=Pos->Option Loc
def Mp.le(M N:Mp):Prop:=∀i L,M i=some L->N i=some L
theorem Mp.le_refl(M:Mp):M.le M:=λ_ _ h=>h
theorem Mp.le_trans{M N O:Mp}(h:M.le N)(g:N.le O):M.le O:=λi L e=>g i L (h i L e)
def bts(s:List Nat):ByteArray:=⟨(s.map UInt8.ofNat).toArray⟩
def scalar:Value->Bool
 | .agg _| .tuple _=>false
 |_=>true
def ahp(L:Loc)(o n:Nat):Cap->Nat->Prop
 | .kn c,k=>k=c/\n<=c
 | .un sz,k=>(n<=k/\k<=9223372036854775807)/\L.off+o+k*sz=L.size
def Bh(M:Mp):Fn->Fn->Prop
 | .yield k,g=>∃L,M (Pos.of k)=some L/\g=.yield L.blk
 | .func f,g=>g=.func f
 | .method n,g=>g=.method n
 | .methodOf t n,g=>g=.methodOf t n
 | .via t p f b,g=>g=.via t p f b
theorem Bh.mono{M N:Mp}(c:M.le N){f g:Fn}(h:Bh M f g):Bh N f g:=by
 cases f<;>first|exact h|(obtain⟨L,a,b⟩:=h;exact⟨L,c _ _ a,b⟩)
def aop:Fn->Bool
 | .yield _=>false
 | .func _=>true
 | .method _=>true
 | .methodOf _ _=>true
 | .via _ _ _ _=>true
theorem Bh.plain(M:Mp){f:Fn}(h:aop f=true):Bh M f f:=by
 cases f<;>first|rfl|cases h
def Rep(M:Mp):V->List Value->Prop
 | .bool b,l=>l= [.bool b]
 | .int k n,l=>l= [.int k n]
 | .str s,l=>(∀b∈s,b<256)/\l= [.string (bts s)]
 | .ptr i o,l=>∃L,M i=some L/\l= [.pointer (some (L.at o))]
 | .bY,l=>l= [.pointer none]
 | .slice i o n c,l=>∃L k,M i=some L/\ahp L o n c k/\l= [.slice (some (L.at o)) n k]
 | .aO,l=>l= [.slice none 0 0]
 | .emp,l=>∃a k,l= [.slice (some a) 0 k]
 | .map i,l=>∃L,M i=some L/\l= [.map (some L.blk)]
 | .jW,l=>l= [.map none]
 | .func fn a b,l=>∃g x y,Bh M fn g/\(a.isRow=true/\b.isRow=true)/\Rep M a x/\Rep M b y/\l= [.func g x.toArray y.toArray]
 | .iH,l=>l= [.nilFunc]
 | .iface t v,l=>∃x,v.isRow=false/\Rep M v [x]/\l= [.iface t x]
 | .oH,l=>l= [.nilIface]
 | .agg a,l=>∃x,a.isRow=true/\Rep M a x/\(∀y∈x,scalar y=true)/\l= [.agg x.toArray]
 | .tuple a,l=>∃x,a.isRow=true/\Rep M a x/\l= [.tuple x.toArray]
 | .nil,l=>l= []
 | .cons a b,l=>∃x xs,a.isRow=false/\Rep M a [x]/\b.isRow=true/\Rep M b xs/\l=x::xs
theorem Rep.mono{M N:Mp}(d:M.le N){v:V}:∀{l:List Value},Rep M v l->Rep N v l:=by
 induction v with
 |ptr i o=>rintro l ⟨L,h,e⟩;exact⟨L,d _ _ h,e⟩
 |slice i o n c=>rintro l ⟨L,k,h,s,e⟩;exact⟨L,k,d _ _ h,s,e⟩
 |map i=>rintro l ⟨L,h,e⟩;exact⟨L,d _ _ h,e⟩
 |func fn a b j m=>rintro l ⟨f,x,y,q,p,h,g,e⟩;exact⟨f,x,y,q.mono d,p,j h,m g,e⟩
 |iface t v r=>rintro l ⟨x,p,h,e⟩;exact⟨x,p,r h,e⟩
 |agg a r=>rintro l ⟨x,p,h,e⟩;exact⟨x,p,r h,e⟩
 |tuple a r=>rintro l ⟨x,p,h,e⟩;exact⟨x,p,r h,e⟩
 |cons a b j m=>rintro l ⟨x,xs,q,h,p,g,e⟩;exact⟨x,xs,q,j h,p,m g,e⟩
 |_=>intro l h;exact h
def Rp(M:Mp)(v:V)(c:Value):Prop:=v.isRow=false/\Rep M v [c]
theorem Rp.mono{M N:Mp}(a:M.le N){v:V}{c:Value}(h:Rp M v c):Rp N v c:=⟨h.1,h.2.mono a⟩
def bV(M:Mp):List V->List Value->Prop
 | [],l=>l= []
 |v::vs,l=>∃x xs,Rp M v x/\bV M vs xs/\l=x::xs
theorem bV.mono{M N:Mp}(a:M.le N):∀{vs:List V} {l:List Value},bV M vs l->bV N vs l
 | [],_,h=>h
 |_::_,_,⟨x,xs,h,g,e⟩=>⟨x,xs,h.mono a,bV.mono a g,e⟩
theorem bV.length{M:Mp}:∀{vs:List V} {l:List Value},bV M vs l->l.length=vs.length
 | [],_,h=>by rw[show _= [] from h];rfl
 |_::_,_,⟨x,xs,_,g,e⟩=>by rw[e];simp[bV.length g]
theorem bV.get{M:Mp}:∀{vs:List V} {l:List Value} (_:bV M vs l) {k:Nat} {v:V},vs[k]?=some v->∃x,l[k]?=some x/\Rp M v x
 | [],_,_,k,v,h=>by simp at h
 |u::vs,_,⟨x,xs,a,g,e⟩,0,v,h=>by
  simp at h;subst h;subst e;exact⟨x,rfl,a⟩
 |u::vs,_,⟨x,xs,a,g,e⟩,k+1,v,h=>by
  subst e;simp at h⊢;exact bV.get g h
theorem bV.mk{M:Mp}:∀{vs:List V} {l:List Value},l.length=vs.length->(∀(k:Nat) (v:V),vs[k]?=some v->∃x,l[k]?=some x/\Rp M v x)->bV M vs l
 | [],l,h,_=>List.length_eq_zero_iff.1 (by simpa using h)
 |v::vs,[],h,_=>by simp at h
 |v::vs,x::l,h,g=>by
  refine⟨x,l,?_,bV.mk (by simpa using h) (λk u c=>?_),rfl⟩
  ·obtain⟨y,a,b⟩:=g 0 v rfl;simp at a;rw[a];exact b
  ·obtain⟨y,a,b⟩:=g (k+1) u (by simpa using c);exact⟨y,by simpa using a,b⟩
theorem bV.append{M:Mp}:∀{vs a:List V} {l k:List Value},bV M vs l->bV M a k->bV M (vs++a) (l++k)
 | [],_,_,_,h,g=>by rw[h];exact g
 |_::_,_,_,_,⟨x,xs,h,g,e⟩,g'=>⟨x,_,h,bV.append g g',by rw[e];rfl⟩
theorem bV.of{M:Mp}:∀{v:V} {l:List Value},v.isRow=true->Rep M v l->bV M v.list l:=by
 intro v;induction v with
 |nil=>intro l _ h;exact h
 |cons a b _ c=>rintro l _ ⟨x,xs,q,h,p,g,e⟩;exact⟨x,xs,⟨q,h⟩,c p g,e⟩
 |_=>intro l p;cases p
theorem V.dG:∀l:List V,(V.ofList l).isRow=true
 | []=>rfl
 |_::_=>rfl
theorem bV.to{M:Mp}:∀{vs:List V} {l:List Value},bV M vs l->Rep M (V.ofList vs) l
 | [],_,h=>h
 |_::vs,_,⟨x,xs,h,g,e⟩=>⟨x,xs,h.1,h.2,V.dG vs,bV.to g,e⟩
theorem bV.drop{M:Mp}(n:Nat):∀{vs:List V} {l:List Value},bV M vs l->bV M (vs.drop n) (l.drop n):=by
 induction n with
 |zero=>intro vs l h;exact h
 |succ n a=>
  intro vs l h;cases vs with
  |nil=>rw[show l= [] from h];rfl
  |cons v vs=>obtain⟨x,xs,_,g,e⟩:=h;rw[e];exact a g
theorem bV.take{M:Mp}(n:Nat):∀{vs:List V} {l:List Value},bV M vs l->bV M (vs.take n) (l.take n):=by
 induction n with
 |zero=>intro vs l h;simp;rfl
 |succ n b=>
  intro vs l h;cases vs with
  |nil=>rw[show l= [] from h];rfl
  |cons v vs=>obtain⟨x,xs,a,g,e⟩:=h;rw[e];exact⟨x,_,a,b g,rfl⟩
theorem Rp.cells{M:Mp}{v:V}{c:Value}(h:Rp M v c):bV M v.cells c.cells.toList:=by
 obtain⟨d,h⟩:=h;have one:∀{v:V} {c:Value},v.isRow=false->Rep M v [c]->c.cells= #[c]->bV M [v] c.cells.toList:=
  λd h e=>⟨_,[],⟨d,h⟩,rfl,by rw[e]⟩
 cases v with
 |agg l=>
  obtain⟨x,p,g,_,e⟩:=h;cases e;simpa[V.cells,c!]using bV.of p g
 |nil=>cases d
 |cons a b=>cases d
 |bool b=>exact one d h (by cases h;rfl)
 |int k n=>exact one d h (by cases h;rfl)
 |str s=>exact one d h (by cases h.2;rfl)
 |ptr i o=>exact one d h (by obtain⟨_,_,e⟩:=h;cases e;rfl)
 |bY=>exact one d h (by cases h;rfl)
 |slice i o n k=>exact one d h (by obtain⟨_,_,_,_,e⟩:=h;cases e;rfl)
 |aO=>exact one d h (by cases h;rfl)
 |emp=>exact one d h (by obtain⟨_,_,e⟩:=h;cases e;rfl)
 |map i=>exact one d h (by obtain⟨_,_,e⟩:=h;cases e;rfl)
 |jW=>exact one d h (by cases h;rfl)
 |func f a b=>exact one d h (by obtain⟨_,_,_,_,_,_,_,e⟩:=h;cases e;rfl)
 |iH=>exact one d h (by cases h;rfl)
 |iface t v=>exact one d h (by obtain⟨_,_,_,e⟩:=h;cases e;rfl)
 |oH=>exact one d h (by cases h;rfl)
 |tuple l=>exact one d h (by obtain⟨_,_,_,e⟩:=h;cases e;rfl)
def kix:IntKind->Nat
 | .i8=>0| .i16=>1| .i32=>2| .i64=>3| .u8=>4| .u16=>5| .u32=>6| .u64=>7
def nJ:Int->Int->Bool
 | .ofNat a,.ofNat b=>e! a b
 | .negSucc a,.negSucc b=>e! a b
 |_,_=>false
def kS:List Nat->List Nat->Bool
 | [],[]=>true
 |a::x,b::y=>(match e! a b with|true=>kS x y|false=>false)
 |_,_=>false
def jg(x y:V):Option Bool:=match x with
 | .int k a=>(match y with| .int c b=>(match e! (kix k) (kix c) with|true=>some (nJ a b)|false=>none)|_=>none)
 | .str s=>(match y with| .str t=>some (kS s t)|_=>none)
 | .bool a=>(match y with| .bool b=>some (match a,b with|true,true=>true|false,false=>true|_,_=>false)|_=>none)
 |_=>none
def iJ(es:List (V×V)):Prop:=(es.map (·.1)).Pairwise λa b=>jg a b=some false
def jJ(M:Mp):List (V×V)->List MapEntry->Prop
 | [],l=>l= []
 |p::ps,l=>∃e es,(Rp M p.1 e.key/\Rp M p.2 e.val)/\jJ M ps es/\l=e::es
theorem jJ.mono{M N:Mp}(a:M.le N):∀{ps:List (V×V)} {l:List MapEntry},jJ M ps l->jJ N ps l
 | [],_,h=>h
 |_::_,_,⟨e,es,h,g,x⟩=>⟨e,es,⟨h.1.mono a,h.2.mono a⟩,jJ.mono a g,x⟩
theorem jJ.length{M:Mp}:∀{ps:List (V×V)} {l:List MapEntry},jJ M ps l->l.length=ps.length
 | [],_,h=>by rw[show _= [] from h];rfl
 |_::_,_,⟨e,es,_,g,x⟩=>by rw[x];simp[jJ.length g]
def xO(M:Mp)(es:List (V×V))(en:Array MapEntry)(a:Nat):Prop:=
 (∃l,List.Perm l en.toList/\jJ M es l)/\iJ es/\(∀e∈en.toList,e.born<a)/\(en.toList.map (·.born)).Nodup
theorem xO.nil(M:Mp):xO M [] #[] 0:=⟨⟨[],by simp,rfl⟩,List.Pairwise.nil,by simp,by simp⟩
theorem xO.mono{M N:Mp}(f:M.le N){es:List (V×V)}{en:Array MapEntry}{g:Nat}(h:xO M es en g):xO N es en g:=
 let ⟨⟨l,a,b⟩,c,d,e⟩:=h
 ⟨⟨l,a,b.mono f⟩,c,d,e⟩
def aO8(L:Loc)(el:TypeId)(fr:Nat×Nat)(n:Nat):Wr->Prop
 | .ro=>True
 | .rw t full=>el=t/\(∀k,L.off<=k->k<=L.size->¬(fr.1<=k/\k<fr.2))/\(full=true->L.off=0/\L.size=n)
def kJ(M:Mp)(L:Loc)(w:World):Ob->Prop
 | .cells wr cs=>∃c el fr,w.heap[L.blk]?=some (.cells c el fr)/\c.size=L.size/\
   (∀(k:Nat) (v:V),cs[k]?=some v->∃x,c[L.off+k]?=some x/\Rp M v x/\scalar x=true)/\
   aO8 L el fr cs.length wr
 | .bytes cs=>∃c el fr,w.heap[L.blk]?=some (.cells c el fr)/\c.size=L.size/\
   (∀(k:Nat) (v:V),cs[k]?=some v->∃x,c[L.off+k]?=some x/\Rp M v x/\scalar x=true)/\
   (∀k,L.off<=k->k<L.size->¬(fr.1<=k/\k<fr.2))
 | .map es=>∃en a,w.heap[L.blk]?=some (.map en a)/\xO M es en a
 | .iter s pos=>(∀b∈s,b<256)/\w.heap[L.blk]?=some (.stringIter (bts s) pos)
theorem kJ.mono{M N:Mp}(d:M.le N){L:Loc}{w:World}{o:Ob}(h:kJ M L w o):kJ N L w o:=by
 cases o with
 |cells wr cs=>
  obtain⟨c,el,fr,a,b,g,f⟩:=h;exact⟨c,el,fr,a,b,λk v e=>let ⟨x,p,q,r⟩:=g k v e;⟨x,p,q.mono d,r⟩,f⟩
 |map es=>
  obtain⟨en,i,a,b⟩:=h;exact⟨en,i,a,b.mono d⟩
 |iter s pos=>exact h
 |bytes cs=>
  obtain⟨c,el,fr,a,b,g,f⟩:=h;exact⟨c,el,fr,a,b,λk v e=>let ⟨x,p,q,r⟩:=g k v e;⟨x,p,q.mono d,r⟩,f⟩
theorem kJ.of_block{M:Mp}{L:Loc}{w w':World}{o:Ob}(h:kJ M L w o)(hb:w'.heap[L.blk]?=w.heap[L.blk]?):kJ M L w' o:=by
 cases o<;>simpa only[kJ,hb]using h
theorem kJ.lt{M:Mp}{L:Loc}{w:World}{o:Ob}(h:kJ M L w o):L.blk<w.heap.size:=by
 cases o with
 |cells wr cs=>obtain⟨c,el,fr,a,_⟩:=h;exact(b!.1 a).1
 |map es=>obtain⟨en,b,a,_⟩:=h;exact(b!.1 a).1
 |iter s pos=>exact(b!.1 h.2).1
 |bytes cs=>obtain⟨c,el,fr,a,_⟩:=h;exact(b!.1 a).1
structure Rel (G:Nat) (M:Mp) (h:Hp) (w:World):Prop where
 ob:∀i o,h.get i=some o->∃L,M i=some L/\kJ M L w o
 fresh:∀i,h.next.nat<=i.nat->M i=none
 sep:∀i j o p L K,i≠j->h.get i=some o->h.get j=some p->o.own=true->M i=some L->M j=some K->L.blk≠K.blk
 gl:∀g,g<G->∃n,M (Pos.of g)=some ⟨g,0,n⟩
structure Ext (M:Mp) (h:Hp) (w:World) (M':Mp) (h':Hp) (w':World):Prop where
 le:M.le M'
 next:h.next.nat<=h'.next.nat
 os:w'.os=w.os
 tape:w'.tape=w.tape
 output:w'.output=w.output
 size:w.heap.size<=w'.heap.size
 same:∀b,b<w.heap.size->(∀i o L,h.get i=some o->o.own=true->M i=some L->L.blk≠b)->w'.heap[b]?=w.heap[b]?
 own:∀i o L,h'.get i=some o->o.own=true->M' i=some L->w.heap.size<=L.blk\/∃j p K,h.get j=some p/\p.own=true/\M j=some K/\K.blk=L.blk
 old:∀i,i.nat<h.next.nat->h.get i=none->h'.get i=none
 all:∀i o L,h'.get i=some o->M' i=some L->w.heap.size<=L.blk\/∃j p K,h.get j=some p/\M j=some K/\K.blk=L.blk
 none:∀i,i.nat<h.next.nat->M i=none->M' i=none
theorem Ext.refl{G:Nat}{M:Mp}{h:Hp}{w:World}(_:Rel G M h w):Ext M h w M h w:=
 ⟨M.le_refl,j! _,rfl,rfl,rfl,j! _,λ_ _ _=>rfl,λi o L a b c=>.inr ⟨i,o,L,a,b,c,rfl⟩,λ_ _ h=>h,λi o L a b=>.inr ⟨i,o,L,a,b,rfl⟩,λ_ _ h=>h⟩
theorem Ext.trans{M N O:Mp}{h g f:Hp}{w x y:World}(a:Ext M h w N g x)(b:Ext N g x O f y):Ext M h w O f y where
 le:=Mp.le_trans a.le b.le
 next:=K! a.next b.next
 os:=b.os.trans a.os
 tape:=b.tape.trans a.tape
 output:=b.output.trans a.output
 size:=K! a.size b.size
 same k C s:=by
  rw[b.same k (F! C a.size) (λi o L hi u q e=>?_),a.same k C s];rcases a.own i o L hi u q with l|⟨j,p,K,r,v,n,m⟩
  ·omega
  ·exact s j p K r v n (m.trans e)
 own i o L hi u q:=by
  rcases b.own i o L hi u q with l|⟨j,p,K,r,v,n,e⟩
  ·exact .inl (K! a.size l)
  ·rcases a.own j p K r v n with l|⟨j',B,K',d,z,c,m⟩
   ·exact .inl (by omega)
   ·exact .inr ⟨j',B,K',d,z,c,m.trans e⟩
 old i hi t:=b.old i (F! hi a.next) (a.old i hi t)
 all i o L hi q:=by
  rcases b.all i o L hi q with l|⟨j,p,K,r,n,e⟩
  ·exact .inl (K! a.size l)
  ·rcases a.all j p K r n with l|⟨j',B,K',d,c,m⟩
   ·exact .inl (by omega)
   ·exact .inr ⟨j',B,K',d,c,m.trans e⟩
 none i hi t:=b.none i (F! hi a.next) (a.none i hi t)
theorem Rel.heap{G:Nat}{M:Mp}{h:Hp}{w w':World}(r:Rel G M h w)(e:w'.heap=w.heap):Rel G M h w':=
 ⟨λi o hi=>let ⟨L,a,b⟩:=r.ob i o hi;⟨L,a,b.of_block (by rw[e])⟩,r.fresh,r.sep,r.gl⟩
theorem Hp.dU(h:Hp)(i:Pos)(o:Option Ob):(h.put i o).get i=o:=T.oI _ _ _
theorem Hp.cZ(h:Hp){i j:Pos}(a:j≠i)(o:Option Ob):(h.put i o).get j=h.get j:=T.sU _ a _
theorem Hp.Gm(h:Hp)(o:Ob):(h.new o).get h.next=some o:=T.oI _ _ _
theorem Hp.lX(h:Hp){j:Pos}(a:j≠h.next)(o:Ob):(h.new o).get j=h.get j:=T.sU _ a _
theorem Rel.lt_next{G:Nat}{M:Mp}{h:Hp}{w:World}(r:Rel G M h w){i:Pos}{L:Loc}(hi:M i=some L):i.nat<h.next.nat:=by
 rcases Nat.lt_or_ge i.nat h.next.nat with hl|hl
 ·exact hl
 ·rw[r.fresh i hl]at hi;cases hi
theorem Rel.ne_next{G:Nat}{M:Mp}{h:Hp}{w:World}(r:Rel G M h w){i:Pos}{L:Loc}(hi:M i=some L):i≠h.next:=by
 intro e;have:=r.lt_next hi;rw[e]at this;omega
def Mp.add(M:Mp)(i:Pos)(L:Loc):Mp:=λj=>if j=i then some L else M j
theorem Mp.fP(M:Mp)(i:Pos)(L:Loc):M.add i L i=some L:=if_pos rfl
theorem Mp.iC(M:Mp){i j:Pos}(a:j≠i)(L:Loc):M.add i L j=M j:=if_neg a
theorem Mp.XW{M:Mp}{i:Pos}(h:M i=none)(L:Loc):M.le (M.add i L):=by
 intro j K a;by_cases e:j=i
 ·subst e;rw[h]at a;cases a
 ·rw[M.iC e];exact a
theorem Rel.new{G:Nat}{M:Mp}{h:Hp}{w:World}(r:Rel G M h w)(o:Ob)(b:Obj)(n:Nat){w':World}
  (H:w'.heap=w.heap.push b) (C:w'.os=w.os) (P:w'.tape=w.tape) (x:w'.output=w.output)
  (J:∀N:Mp,M.le N->kJ N ⟨w.heap.size,0,n⟩ w' o):
  Rel G (M.add h.next ⟨w.heap.size,0,n⟩) (h.new o) w'/\Ext M h w (M.add h.next ⟨w.heap.size,0,n⟩) (h.new o) w'/\M.le (M.add h.next ⟨w.heap.size,0,n⟩):=by
 have f:M h.next=none:=r.fresh _ (j! _);have c:=Mp.XW f ⟨w.heap.size,0,n⟩;have d:∀k,k<w.heap.size->w'.heap[k]?=w.heap[k]?:=λk E=>by rw[H,Array.getElem?_push,if_neg (by omega)]
 refine⟨⟨λi p hi=>?_,λi hi=>?_,λi j p q L K s hi y D a m=>?_,λg I=>?_⟩,⟨c,?_,C,P,x,by rw[H];simp,λk E _=>d k E,λi p L hi D a=>?_,λi hi s=>?_,λi p L hi a=>?_,λi hi s=>?_⟩,c⟩
 ·by_cases e:i=h.next
  ·subst e;rw[h.Gm]at hi;cases hi;exact⟨_,M.fP _ _,J _ c⟩
  ·rw[h.lX e]at hi;obtain⟨L,a,t⟩:=r.ob i p hi;exact⟨L,by rw[M.iC e];exact a,(t.of_block (d _ t.lt)).mono c⟩
 ·have O:(h.new o).next.nat=h.next.nat+1:=Pos.fG _;rw[O]at hi;have e:i≠h.next:=λe=>by rw[e]at hi;omega
  rw[M.iC e];exact r.fresh i (by omega)
 ·by_cases z:i=h.next
  ·subst z;rw[M.fP]at a;cases a;have l:j≠h.next:=λe=>s e.symm;rw[M.iC l]at m;rw[h.lX l]at y;obtain⟨K',u,t⟩:=r.ob j q y;rw[m]at u;cases u;have:=t.lt;show w.heap.size≠K.blk;omega
  ·rw[M.iC z]at a;rw[h.lX z]at hi;obtain⟨S,v,t⟩:=r.ob i p hi;rw[a]at v;cases v;by_cases l:j=h.next
   ·subst l;rw[M.fP]at m;cases m;have:=t.lt;show L.blk≠w.heap.size;omega
   ·rw[M.iC l]at m;rw[h.lX l]at y;exact r.sep i j p q L K s hi y D a m
 ·obtain⟨Q,B⟩:=r.gl g I;exact⟨Q,c _ _ B⟩
 ·show h.next.nat<=h.next.succ.nat;rw[Pos.fG];omega
 ·by_cases e:i=h.next
  ·subst e;rw[M.fP]at a;cases a;exact .inl (j! _)
  ·rw[h.lX e]at hi;rw[M.iC e]at a;exact .inr ⟨i,p,L,hi,D,a,rfl⟩
 ·have e:i≠h.next:=λe=>by rw[e]at hi;omega
  rw[h.lX e];exact s
 ·by_cases e:i=h.next
  ·subst e;rw[M.fP]at a;cases a;exact .inl (j! _)
  ·rw[h.lX e]at hi;rw[M.iC e]at a;exact .inr ⟨i,p,L,hi,a,rfl⟩
 ·have e:i≠h.next:=λe=>by rw[e]at hi;omega
  rw[M.iC e];exact s
theorem Rel.turn{G:Nat}{M:Mp}{h:Hp}{w:World}(r:Rel G M h w){i:Pos}{o o':Ob}{L:Loc}(hi:h.get i=some o)(f:M i=some L)
  (c:o.own=true) {w':World} (N:w'.heap.size=w.heap.size) (m:∀k,k≠L.blk->w'.heap[k]?=w.heap[k]?)
  (x:w'.os=w.os) (I:w'.tape=w.tape) (n:w'.output=w.output) (E:kJ M L w' o'):
  Rel G M (h.put i (some o')) w'/\Ext M h w M (h.put i (some o')) w':=by
 refine⟨⟨λj p d=>?_,r.fresh,λa b p q A B l u hb y s t=>?_,r.gl⟩,⟨M.le_refl,j! _,x,I,n,by omega,λk J v=>m k (λe=>v i o L hi c f e.symm),λj p K d y g=>?_,λj d l=>?_,λj p K d g=>?_,λ_ _ l=>l⟩⟩
 ·by_cases e:j=i
  ·subst e;rw[h.dU]at d;cases d;exact⟨L,f,E⟩
  ·rw[h.cZ e]at d;obtain⟨K,g,H⟩:=r.ob j p d;exact⟨K,g,H.of_block (m _ (λD=>r.sep i j o p L K (Ne.symm e) hi d c f g D.symm))⟩
 ·by_cases z:a=i
  ·subst z;rw[h.cZ (Ne.symm l)]at hb;rw[f]at s;cases s;exact r.sep a b o q L B l hi hb c f t
  ·rw[h.cZ z]at u;by_cases C:b=i
   ·subst C;rw[f]at t;cases t;exact λe=>r.sep b a o p L A (Ne.symm l) hi u c f s e.symm
   ·rw[h.cZ C]at hb;exact r.sep a b p q A B l u hb y s t
 ·by_cases e:j=i
  ·subst e;rw[f]at g;cases g;exact .inr ⟨j,o,L,hi,c,f,rfl⟩
  ·rw[h.cZ e]at d;exact .inr ⟨j,p,K,d,y,g,rfl⟩
 ·by_cases e:j=i
  ·subst e;rw[hi]at l;cases l
  ·rw[h.cZ e];exact l
 ·by_cases e:j=i
  ·subst e;rw[f]at g;cases g;exact .inr ⟨j,o,L,hi,f,rfl⟩
  ·rw[h.cZ e]at d;exact .inr ⟨j,p,K,d,g,rfl⟩
theorem Rel.drop{G:Nat}{M:Mp}{h:Hp}{w:World}(r:Rel G M h w)(i:Pos):Rel G M (h.put i none) w/\Ext M h w M (h.put i none) w:=by
 have key:∀{j:Pos} {p:Ob},(h.put i none).get j=some p->h.get j=some p:=λ{j p} c=>by
  by_cases e:j=i
  ·subst e;rw[h.dU]at c;cases c
  ·rwa[h.cZ e]at c
 refine⟨⟨λj p c=>r.ob j p (key c),r.fresh,λa b p q A B d g hb=>r.sep a b p q A B d (key g) (key hb),r.gl⟩,⟨M.le_refl,j! _,rfl,rfl,rfl,j! _,λ_ _ _=>rfl,λj p K c k f=>.inr ⟨j,p,K,key c,k,f,rfl⟩,λj c d=>?_,λj p K c f=>.inr ⟨j,p,K,key c,f,rfl⟩,λ_ _ d=>d⟩⟩;by_cases e:j=i
 ·subst e;exact h.dU _ _
 ·rw[h.cZ e];exact d
theorem Rel.cell{G:Nat}{M:Mp}{h:Hp}{w:World}(r:Rel G M h w){i:Pos}{wr:Wr}{cs:List V}{L:Loc}{k:Nat}{v:V}
  (hi:(h.get i).bind Ob.row=some (wr,cs)) (n:M i=some L) (l:cs[k]?=some v):
  ∃x,w.cell? (L.at k)=some x/\Rp M v x/\scalar x=true:=by
 cases d:h.get i with
 |none=>rw[d]at hi;cases hi
 |some o=>
  rw[d]at hi;obtain⟨q,a,m⟩:=r.ob i _ d;rw[n]at a;cases a;cases o with
  |cells t cs0=>
   cases hi;obtain⟨c,el,fr,hb,g,b,_⟩:=m;obtain⟨x,j,e,f⟩:=b k v l;exact⟨x,by simp[L!,Loc.at,hb,j],e,f⟩
  |bytes cs0=>
   cases hi;obtain⟨c,el,fr,hb,g,b,_⟩:=m;obtain⟨x,j,e,f⟩:=b k v l;exact⟨x,by simp[L!,Loc.at,hb,j],e,f⟩
  |map es=>cases hi
  |iter s p=>cases hi
theorem qx{h:Hp}{i:Pos}{t:TypeId}{f:Bool}{cs:List V}(hi:(h.get i).bind Ob.row=some (.rw t f,cs)):h.get i=some (.cells (.rw t f) cs):=by
 cases a:h.get i with
 |none=>rw[a]at hi;cases hi
 |some o=>
  rw[a]at hi;cases o<;>first|(cases hi;done)|(cases hi;rfl)
def JZ(n:Nat)(l:List V):Option V:=
 J! (motive:=λ_=>List V->Option V) (λl=>k! l none (λa _=>some a)) (λ_ b l=>k! l none (λ_ t=>b t)) n l
def eP(n:Nat)(l:List V):List V:=
 J! (motive:=λ_=>List V->List V) (λl=>l) (λ_ a l=>k! l [] (λ_ t=>a t)) n l
def gQ(n:Nat)(l:List V):Option (List V):=
 J! (motive:=λ_=>List V->Option (List V)) (λ_=>some []) (λ_ b l=>k! l none (λa t=>i! (b t) none (λr=>some (a::r)))) n l
def QA(vs:List V)(l:List V):Option (List V):=
 List.rec (motive:=λ_=>List V->Option (List V)) (λl=>some l) (λv _ a l=>k! l none (λ_ t=>i! (a t) none (λr=>some (v::r)))) vs l
def jh(n:Nat)(vs:List V)(l:List V):Option (List V):=
 J! (motive:=λ_=>List V->Option (List V)) (λl=>QA vs l) (λ_ b l=>k! l none (λa t=>i! (b t) none (λr=>some (a::r)))) n l
theorem nS(n:Nat):∀l:List V,JZ n l=l[n]?:=by
 induction n with
 |zero=>intro l;cases l<;>rfl
 |succ n b=>intro l;cases l with
  |nil=>rfl
  |cons a t=>exact(b t).trans (by simp)
theorem jb(n:Nat):∀l:List V,eP n l=l.drop n:=by
 induction n with
 |zero=>intro l;rfl
 |succ n b=>intro l;cases l with
  |nil=>rfl
  |cons a t=>exact(b t).trans (by simp)
theorem RP(n:Nat):∀{l r:List V},gQ n l=some r->n<=l.length/\r=l.take n:=by
 induction n with
 |zero=>intro l r h;cases h;simp
 |succ n d=>intro l r h;cases l with
  |nil=>cases h
  |cons a t=>
   change i! (gQ n t) none (λr=>some (a::r))=some r at h;cases b:gQ n t with
   |none=>rw[b]at h;cases h
   |some s=>rw[b]at h;cases h;obtain⟨e,c⟩:=d b;exact⟨by simp;omega,by rw[c];rfl⟩
theorem F9{n:Nat}:∀{l:List V},n<=l.length->gQ n l=some (l.take n):=by
 induction n with
 |zero=>intro l _;rfl
 |succ n b=>intro l h;cases l with
  |nil=>simp at h
  |cons a t=>
   change @i! (List V) (λ_=>Option (List V)) (gQ n t) none (λr=>some (a::r))=_;rw[b (by simpa using h)];rfl
theorem aFd(vs:List V):∀{l r:List V},QA vs l=some r->vs.length<=l.length/\r=vs++l.drop vs.length:=by
 induction vs with
 |nil=>intro l r h;cases h;simp
 |cons v vs d=>intro l r h;cases l with
  |nil=>cases h
  |cons a t=>
   change i! (QA vs t) none (λr=>some (v::r))=some r at h;cases b:QA vs t with
   |none=>rw[b]at h;cases h
   |some s=>rw[b]at h;cases h;obtain⟨e,c⟩:=d b;exact⟨by simp;omega,by rw[c];rfl⟩
theorem EK(n:Nat)(vs:List V):∀{l r:List V},jh n vs l=some r->n+vs.length<=l.length/\r=l.take n++vs++l.drop (n+vs.length):=by
 induction n with
 |zero=>intro l r h;obtain⟨a,b⟩:=aFd vs h;exact⟨by omega,by rw[b];simp⟩
 |succ n e=>intro l r h;cases l with
  |nil=>cases h
  |cons a t=>
   change i! (jh n vs t) none (λr=>some (a::r))=some r at h;cases c:jh n vs t with
   |none=>rw[c]at h;cases h
   |some s=>
    rw[c]at h;cases h;obtain⟨f,d⟩:=e c;exact⟨by simp;omega,by rw[d,show n+1+vs.length=(n+vs.length)+1 from by omega];rfl⟩
theorem ajX{n:Nat}{vs l r:List V}(h:jh n vs l=some r)(k:Nat):r[k]?=if k<n then l[k]? else if k<n+vs.length then vs[k - n]? else l[k]?:=by
 obtain⟨e,d⟩:=EK n vs h;have c:(l.take n).length=n:=by simp;omega
 rw[d,List.append_assoc,R!];split
 ·rename_i a;rw[c]at a;rw[if_pos a,E!,if_pos a]
 ·rename_i a;rw[c]at a⊢;rw[if_neg a,R!];split
  ·rename_i b;rw[if_pos (by omega)]
  ·rename_i b;rw[if_neg (by omega),V!];congr 1;omega
theorem Rel.cells{G:Nat}{M:Mp}{h:Hp}{w:World}(r:Rel G M h w){i:Pos}{wr:Wr}{cs:List V}{L:Loc}{n o:Nat}{vs:List V}
  (hi:(h.get i).bind Ob.row=some (wr,cs)) (C:M i=some L) (D:gQ n (eP o cs)=some vs):
  ∃xs:List Value,bV M vs xs/\xs.length=n/\(∀x∈xs,scalar x=true)/\∀(j:Nat) (x:Value),xs[j]?=some x->w.cell? ((L.at o).add j)=some x:=by
 obtain⟨z,t⟩:=RP n D;rw[jb]at z t;have g:vs.length=n:=by rw[t];simp at z⊢;omega
 have l:∀j v,vs[j]?=some v->cs[o+j]?=some v:=λj v e=>by
  rw[t,E!]at e;split at e
  ·rwa[V!]at e
  ·cases e
 have u:∀j:Nat,∃x:Value,j<n->∃v,vs[j]?=some v/\w.cell? (L.at (o+j))=some x/\Rp M v x/\scalar x=true:=λj=>by
  by_cases e:j<n
  ·have q:vs[j]?=some vs[j]:=t! (by omega);obtain⟨x,a,b,c⟩:=r.cell hi C (l j _ q);exact⟨x,λ_=>⟨_,q,a,b,c⟩⟩
  ·exact⟨undef,λh=>absurd h e⟩
 let f:Nat->Value:=λj=>(u j).choose
 have s:∀j,j<n->∃v,vs[j]?=some v/\w.cell? (L.at (o+j))=some (f j)/\Rp M v (f j)/\scalar (f j)=true:=λj e=>(u j).choose_spec e;refine⟨(List.range n).map f,bV.mk (by simp[g]) (λk v y=>?_),by simp,λx E=>?_,λj x e=>?_⟩
 ·have p:k<n:=by
   rw[<-g];exact(r!.1 y).1
  obtain⟨B,a,b,c,d⟩:=s k p;rw[y]at a;cases a;exact⟨f k,by simp[p],c⟩
 ·obtain⟨j,e,rfl⟩:=List.mem_map.1 E;obtain⟨B,a,b,c,d⟩:=s j (List.mem_range.1 e);exact d
 ·have m:j<n:=by
   have:=(r!.1 e).1;simpa using this
  obtain⟨B,a,b,c,d⟩:=s j m;simp[m]at e;subst e;rw[<-b];congr 1;unfold Loc.at Addr.add;simp only;split<;>simp_all[a?]
theorem Qw{x:Value}(h:scalar x=true):x.oneCell'=true:=by
 cases x<;>simp_all[scalar,Value.oneCell']
theorem aE8{n:Nat}{vs l r:List V}(h:jh n vs l=some r):r.length=l.length:=by
 obtain⟨a,rfl⟩:=EK n vs h;simp;omega
theorem Rel.store{P:Program}{G:Nat}{M:Mp}{h:Hp}{w:World}(r:Rel G M h w){i:Pos}{cs n:List V}{L:Loc}{o:Nat}{vs:List V}{xs:List Value}
  {t:TypeId} {full:Bool} (hi:h.get i=some (.cells (.rw t full) cs)) (Q:M i=some L) (K:jh o vs cs=some n) (X:bV M vs xs) (p:∀x∈xs,scalar x=true):
  ∃w',(storeCells (L.at o) xs).run P w=.ok () w'/\Rel G M (h.put i (some (.cells (.rw t full) n))) w'/\Ext M h w M (h.put i (some (.cells (.rw t full) n))) w':=by
 obtain⟨U,_⟩:=EK o vs K;obtain⟨L',y,c,el,fr,hb,ab,J,f⟩:=r.ob i _ hi;rw[Q]at y;cases y;have ac:=X.length;have q:∀j,j<xs.length->L.off+o+j<c.size:=λj s=>by
  have b:(cs[o+j]?)=some cs[o+j]:=t! (by omega);obtain⟨x,l,_⟩:=J (o+j) _ b;have:=(b!.1 l).1;omega
 have m:=run_storeCells_cells (P:=P) L.blk (L.off+o) xs 0 w
  (λj s=>by
   have:=q j s;simp[L!,hb,this])
  (λj s=>by
   have p:=q j s;have:=f.2.1 (L.off+o+j) (by omega) (by omega);simp[W!,hb];omega)
  (λv hv=>Qw (p v hv))
 simp only[e?]at m;refine⟨_,m,?_⟩;have z:∃d,(w.setCells L.blk (L.off+o) xs).heap[L.blk]?=some (.cells d el fr)/\d.size=c.size/\(∀k,d[k]?=if L.off+o<=k/\k<L.off+o+xs.length then xs[k - (L.off+o)]? else c[k]?):=by
  have key:∀(xs:List Value) (a:Nat) (c:Array Value) (w:World),w.heap[L.blk]?=some (.cells c el fr)->(∀j,j<xs.length->a+j<c.size)->
    ∃d,(w.setCells L.blk a xs).heap[L.blk]?=some (.cells d el fr)/\d.size=c.size/\(∀k,d[k]?=if a<=k/\k<a+xs.length then xs[k - a]? else c[k]?):=by
   intro xs;induction xs with
   |nil=>intro a c w N _;exact⟨c,N,rfl,λk=>by rw[if_neg (by simp<;>omega)]⟩
   |cons x xs D=>
    intro a c w N g;have O:(w.setCell ⟨L.blk,a,none⟩ x).heap[L.blk]?=some (.cells (c.setIfInBounds a x) el fr):=by
     simp[A!,P!,N]
    obtain⟨d,p,E,H⟩:=D (a+1) (c.setIfInBounds a x) _ O (λj s=>by have:=g (j+1) (by simp;omega);simp;omega);refine⟨d,p,by simpa using E,λk=>?_⟩;rw[H k];have ha:=g 0 (by simp)
    by_cases e:k=a
    ·subst e;rw[if_neg (by omega),if_pos (by simp)];rw[d?,x! (by simpa using ha)];rfl
    ·by_cases b:a+1<=k/\k<a+1+xs.length
     ·rw[if_pos b,if_pos (by simp;omega),show k - a=(k - (a+1))+1 from by omega];simp
     ·rw[if_neg b,if_neg (by simp at b⊢;omega),I! (by omega)]
  exact key xs (L.off+o) c w hb (λj s=>q j s)
 obtain⟨d,I,W,B⟩:=z;have C:∀k,k≠L.blk->(w.setCells L.blk (L.off+o) xs).heap[k]?=w.heap[k]?:=by
  have key:∀(xs:List Value) (a:Nat) (w:World) (k:Nat),k≠L.blk->(w.setCells L.blk a xs).heap[k]?=w.heap[k]?:=by
   intro xs;induction xs with
   |nil=>intros;rfl
   |cons x xs D=>intro a w k b;rw[y!,D _ _ _ b];exact z! _ _ _ _ b
  exact λk b=>key xs _ w k b
 have u:∀(xs:List Value) (a:Nat) (w:World),(w.setCells L.blk a xs).heap.size=w.heap.size/\(w.setCells L.blk a xs).os=w.os/\(w.setCells L.blk a xs).tape=w.tape/\(w.setCells L.blk a xs).output=w.output:=by
  intro xs;induction xs with
  |nil=>intros;exact⟨rfl,rfl,rfl,rfl⟩
  |cons x xs D=>intro a w;obtain⟨p,E,H,h4⟩:=D (a+1) (w.setCell ⟨L.blk,a,none⟩ x);exact⟨by rw[y!,p];simp[A!],E,H,h4⟩
 obtain⟨Y,Z,g3,g4⟩:=u xs (L.off+o) w;refine r.turn hi Q rfl Y C Z g3 g4 ⟨d,el,fr,I,by omega,λk v b=>?_,f.1,f.2.1,λS=>⟨(f.2.2 S).1,by rw[(f.2.2 S).2,aE8 K]⟩⟩;rw[ajX K]at b;rw[B];split at b
 ·rename_i g;rw[if_neg (by omega)];exact J k v b
 ·rename_i aa;split at b
  ·rename_i g;rw[if_pos (by omega),show L.off+k - (L.off+o)=k - o from by omega];obtain⟨x,l,hr⟩:=X.get b;exact⟨x,l,hr,p x (p! l)⟩
  ·rw[if_neg (by omega)];exact J k v b
theorem Rel.RS{P:Program}{G:Nat}{M:Mp}{h:Hp}{w:World}(r:Rel G M h w){i:Pos}{cs m:List V}{L:Loc}{o:Nat}{vs:List V}{xs:List Value}
  (hi:h.get i=some (.bytes cs)) (N:M i=some L) (Q:jh o vs cs=some m) (U:bV M vs xs) (n:∀x∈xs,scalar x=true):
  ∃w',(storeCells (L.at o) xs).run P w=.ok () w'/\Rel G M (h.put i (some (.bytes m))) w'/\Ext M h w M (h.put i (some (.bytes m))) w':=by
 obtain⟨O,_⟩:=EK o vs Q;obtain⟨L',t,c,el,fr,hb,ab,I,y⟩:=r.ob i _ hi;rw[N]at t;cases t;have ac:=U.length;have p:∀j,j<xs.length->L.off+o+j<c.size:=λj q=>by
  have b:(cs[o+j]?)=some cs[o+j]:=t! (by omega);obtain⟨x,g,_⟩:=I (o+j) _ b;have:=(b!.1 g).1;omega
 have l:=run_storeCells_cells (P:=P) L.blk (L.off+o) xs 0 w
  (λj q=>by
   have:=p j q;simp[L!,hb,this])
  (λj q=>by
   have n:=p j q;have:=y (L.off+o+j) (by omega) (by omega);simp[W!,hb];omega)
  (λv hv=>Qw (n v hv))
 simp only[e?]at l;refine⟨_,l,?_⟩;have u:∃d,(w.setCells L.blk (L.off+o) xs).heap[L.blk]?=some (.cells d el fr)/\d.size=c.size/\(∀k,d[k]?=if L.off+o<=k/\k<L.off+o+xs.length then xs[k - (L.off+o)]? else c[k]?):=by
  have key:∀(xs:List Value) (a:Nat) (c:Array Value) (w:World),w.heap[L.blk]?=some (.cells c el fr)->(∀j,j<xs.length->a+j<c.size)->
    ∃d,(w.setCells L.blk a xs).heap[L.blk]?=some (.cells d el fr)/\d.size=c.size/\(∀k,d[k]?=if a<=k/\k<a+xs.length then xs[k - a]? else c[k]?):=by
   intro xs;induction xs with
   |nil=>intro a c w J _;exact⟨c,J,rfl,λk=>by rw[if_neg (by simp<;>omega)]⟩
   |cons x xs C=>
    intro a c w J f;have K:(w.setCell ⟨L.blk,a,none⟩ x).heap[L.blk]?=some (.cells (c.setIfInBounds a x) el fr):=by
     simp[A!,P!,J]
    obtain⟨d,n,D,E⟩:=C (a+1) (c.setIfInBounds a x) _ K (λj q=>by have:=f (j+1) (by simp;omega);simp;omega);refine⟨d,n,by simpa using D,λk=>?_⟩;rw[E k];have ha:=f 0 (by simp)
    by_cases e:k=a
    ·subst e;rw[if_neg (by omega),if_pos (by simp)];rw[d?,x! (by simpa using ha)];rfl
    ·by_cases b:a+1<=k/\k<a+1+xs.length
     ·rw[if_pos b,if_pos (by simp;omega),show k - a=(k - (a+1))+1 from by omega];simp
     ·rw[if_neg b,if_neg (by simp at b⊢;omega),I! (by omega)]
  exact key xs (L.off+o) c w hb (λj q=>p j q)
 obtain⟨d,H,S,z⟩:=u;have B:∀k,k≠L.blk->(w.setCells L.blk (L.off+o) xs).heap[k]?=w.heap[k]?:=by
  have key:∀(xs:List Value) (a:Nat) (w:World) (k:Nat),k≠L.blk->(w.setCells L.blk a xs).heap[k]?=w.heap[k]?:=by
   intro xs;induction xs with
   |nil=>intros;rfl
   |cons x xs C=>intro a w k b;rw[y!,C _ _ _ b];exact z! _ _ _ _ b
  exact λk b=>key xs _ w k b
 have s:∀(xs:List Value) (a:Nat) (w:World),(w.setCells L.blk a xs).heap.size=w.heap.size/\(w.setCells L.blk a xs).os=w.os/\(w.setCells L.blk a xs).tape=w.tape/\(w.setCells L.blk a xs).output=w.output:=by
  intro xs;induction xs with
  |nil=>intros;exact⟨rfl,rfl,rfl,rfl⟩
  |cons x xs C=>intro a w;obtain⟨n,D,E,h4⟩:=C (a+1) (w.setCell ⟨L.blk,a,none⟩ x);exact⟨by rw[y!,n];simp[A!],D,E,h4⟩
 obtain⟨W,X,Y,Z⟩:=s xs (L.off+o) w;refine r.turn hi N rfl W B X Y Z ⟨d,el,fr,H,by omega,λk v b=>?_,y⟩;rw[ajX Q]at b;rw[z];split at b
 ·rename_i f;rw[if_neg (by omega)];exact I k v b
 ·rename_i aa;split at b
  ·rename_i f;rw[if_pos (by omega),show L.off+k - (L.off+o)=k - o from by omega];obtain⟨x,g,hr⟩:=U.get b;exact⟨x,g,hr,n x (p! g)⟩
  ·rw[if_neg (by omega)];exact I k v b
section
variable{α:Type}
variable{M:Mp}{c:Value}
theorem Rp.bool{b:Bool}(h:Rp M (.bool b) c):c=.bool b:=by cases h.2;rfl
theorem Rp.int{k:IntKind}{n:Int}(h:Rp M (.int k n) c):c=.int k n:=by cases h.2;rfl
theorem Rp.str{s:List Nat}(h:Rp M (.str s) c):(∀b∈s,b<256)/\c=.string (bts s):=⟨h.2.1,by cases h.2.2;rfl⟩
theorem Rp.ptr{i:Pos}{o:Nat}(h:Rp M (.ptr i o) c):∃L,M i=some L/\c=.pointer (some (L.at o)):=by
 obtain⟨_,L,a,e⟩:=h;cases e;exact⟨L,a,rfl⟩
theorem Rp.bY(h:Rp M .bY c):c=.pointer none:=by cases h.2;rfl
theorem Rp.slice{i:Pos}{o n:Nat}{k:Cap}(h:Rp M (.slice i o n k) c):∃L m,M i=some L/\ahp L o n k m/\c=.slice (some (L.at o)) n m:=by
 obtain⟨_,L,m,a,b,e⟩:=h;cases e;exact⟨L,m,a,b,rfl⟩
theorem Rp.aO(h:Rp M .aO c):c=.slice none 0 0:=by cases h.2;rfl
theorem Rp.emp(h:Rp M .emp c):∃a k,c=.slice (some a) 0 k:=by obtain⟨_,a,k,e⟩:=h;cases e;exact⟨a,k,rfl⟩
theorem Rp.map{i:Pos}(h:Rp M (.map i) c):∃L,M i=some L/\c=.map (some L.blk):=by obtain⟨_,L,a,e⟩:=h;cases e;exact⟨L,a,rfl⟩
theorem Rp.jW(h:Rp M .jW c):c=.map none:=by cases h.2;rfl
theorem Rp.iH(h:Rp M .iH c):c=.nilFunc:=by cases h.2;rfl
theorem Rp.oH(h:Rp M .oH c):c=.nilIface:=by cases h.2;rfl
theorem Rp.iface{t:TypeId}{v:V}(h:Rp M (.iface t v) c):∃x,Rp M v x/\c=.iface t x:=by
 obtain⟨_,x,a,b,e⟩:=h;cases e;exact⟨x,⟨a,b⟩,rfl⟩
theorem Rp.func{fn:Fn}{a b:V}(h:Rp M (.func fn a b) c):∃g x y,Bh M fn g/\bV M a.list x/\bV M b.list y/\c=.func g x.toArray y.toArray:=by
 obtain⟨_,g,x,y,f,p,q,r,e⟩:=h;cases e;exact⟨g,x,y,f,bV.of p.1 q,bV.of p.2 r,rfl⟩
theorem Rp.agg{a:V}(h:Rp M (.agg a) c):∃x,bV M a.list x/\(∀y∈x,scalar y=true)/\c=.agg x.toArray:=by
 obtain⟨_,x,p,q,r,e⟩:=h;cases e;exact⟨x,bV.of p q,r,rfl⟩
theorem Rp.tuple{a:V}(h:Rp M (.tuple a) c):∃x,bV M a.list x/\c=.tuple x.toArray:=by
 obtain⟨_,x,p,q,e⟩:=h;cases e;exact⟨x,bV.of p q,rfl⟩
theorem yu(M:Mp)(b:Bool):Rp M (.bool b) (.bool b):=⟨rfl,rfl⟩
theorem gZ(M:Mp)(k:IntKind)(n:Int):Rp M (.int k n) (.int k n):=⟨rfl,rfl⟩
theorem RX{M:Mp}{s:List Nat}(h:∀b∈s,b<256):Rp M (.str s) (.string (bts s)):=⟨rfl,h,rfl⟩
theorem xM{M:Mp}{i:Pos}{L:Loc}(h:M i=some L)(o:Nat):Rp M (.ptr i o) (.pointer (some (L.at o))):=⟨rfl,L,h,rfl⟩
theorem jC{M:Mp}{i:Pos}{L:Loc}(h:M i=some L){o n:Nat}{k:Cap}{m:Nat}(a:ahp L o n k m):Rp M (.slice i o n k) (.slice (some (L.at o)) n m):=⟨rfl,L,m,h,a,rfl⟩
theorem oU(M:Mp):Rp M V.undef undef:=⟨rfl,[],rfl,rfl,rfl⟩
theorem aef{M:Mp}{vs:List V}{xs:List Value}(h:bV M vs xs)(a:∀y∈xs,scalar y=true):Rp M (.agg (V.ofList vs)) (.agg xs.toArray):=
 ⟨rfl,xs,V.dG vs,h.to,a,rfl⟩
theorem asN{M:Mp}{vs:List V}{xs:List Value}(h:bV M vs xs):Rp M (.tuple (V.ofList vs)) (.tuple xs.toArray):=
 ⟨rfl,xs,V.dG vs,h.to,rfl⟩
end
section
variable{α:Type}
def tu(v:V)(k:Pos->Nat->R α):R α:=match v with| .ptr i o=>k i o|_=>.bad
def asInt(v:V)(k:IntKind->Int->R α):R α:=match v with| .int a n=>k a n|_=>.bad
def mr(v:V)(k:Nat->R α):R α:=match v with| .int _ (.ofNat n)=>k n|_=>.bad
def asBool(v:V)(k:Bool->R α):R α:=match v with| .bool b=>k b|_=>.bad
def dQ(h:Hp)(i:Pos)(k:Wr->List V->R α):R α:=match h.get i with|some o=>(match o with| .cells w cs=>k w cs| .bytes cs=>k .ro cs|_=>.bad)|none=>.bad
variable{r:α}{h':Hp}
theorem mg{v:V}{k:Pos->Nat->R α}(e:tu v k=.ok r h'):∃i o,v=.ptr i o/\k i o=.ok r h':=by
 unfold tu at e;split at e
 ·exact⟨_,_,rfl,e⟩
 ·cases e
theorem Eo{v:V}{k:IntKind->Int->R α}(e:asInt v k=.ok r h'):∃i o,v=.int i o/\k i o=.ok r h':=by
 unfold asInt at e;split at e
 ·exact⟨_,_,rfl,e⟩
 ·cases e
theorem oW{v:V}{k:Nat->R α}(e:mr v k=.ok r h'):∃i o,v=.int i (.ofNat o)/\k o=.ok r h':=by
 unfold mr at e;split at e
 ·exact⟨_,_,rfl,e⟩
 ·cases e
theorem aqx{v:V}{k:Bool->R α}(e:asBool v k=.ok r h'):∃b,v=.bool b/\k b=.ok r h':=by
 unfold asBool at e;split at e
 ·exact⟨_,rfl,e⟩
 ·cases e
theorem gX{h:Hp}{i:Pos}{k:Wr->List V->R α}(e:dQ h i k=.ok r h'):∃w cs,(h.get i).bind Ob.row=some (w,cs)/\k w cs=.ok r h':=by
 unfold dQ at e;split at e
 ·rename_i o a;split at e
  ·exact⟨_,_,by rw[a];rfl,e⟩
  ·exact⟨_,_,by rw[a];rfl,e⟩
  ·cases e
 ·cases e
end
section
variable{α:Type}
def Good(P:Program)(G:Nat)(M:Mp)(h:Hp)(w:World)(s:Sem Value)(r:V)(h':Hp):Prop:=
 ∃c w' M',s.run P w=.ok c w'/\Rp M' r c/\Rel G M' h' w'/\Ext M h w M' h' w'
variable{P:Program}{G:Nat}{M:Mp}{h h':Hp}{w:World}{r:V}
theorem Good.same(a:Rel G M h w){s:Sem Value}{c:Value}(e:s.run P w=.ok c w)(b:Rp M r c):Good P G M h w s r h:=
 ⟨c,w,M,e,b,a,.refl a⟩
def aF(a:V)(h:Hp):R V:=tu a λi o=>dQ h i λ_ cs=>match JZ o cs with|some v=>.ok v h|none=>.bad
def bT(n:Nat)(a:V)(h:Hp):R V:=tu a λi o=>dQ h i λ_ cs=>match gQ n (eP o cs) with|some l=>.ok (.agg (V.ofList l)) h|none=>.bad
def gW:V->Bool
 | .tuple _=>false
 |_=>true
def U4(i:Pos)(o:Nat)(x:V)(h:Hp):R V:=match h.get i with
 |some b=>(match b with
  | .bytes cs=>(match jh o x.cells cs with|some a=>.ok V.undef (h.put i (some (.bytes a)))|none=>.bad)
  |_=>.bad)
 |none=>.bad
def aQ(sz:Nat)(a x:V)(h:Hp):R V:=tu a λi o=>dQ h i λwr cs=>
 match wr,gW x,e! x.cells.length sz with
 | .rw t f,true,true=>(match jh o x.cells cs with|some b=>.ok V.undef (h.put i (some (.cells (.rw t f) b)))|none=>.bad)
 | .ro,true,true=>U4 i o x h
 |_,_,_=>.bad
def fE(t:TypeId)(z:List V)(h:Hp):R V:=.ok (.ptr h.next 0) (h.new (.cells (.rw t true) z))
def fO(t:TypeId)(x:V)(h:Hp):R V:=match gW x with|true=>.ok (.ptr h.next 0) (h.new (.cells (.rw t true) x.cells))|false=>.bad
theorem UW{t:TypeId}{d:TypeDesc}(a:P.underlying t=some d):(isAgg t).run P w=.ok (match d with| .struct _| .array _ _=>true|_=>false) w:=by
 simp only[isAgg,u!,run_underlying a,l!];cases d<;>rfl
theorem aFo{t:TypeId}{d:TypeDesc}(k:P.underlying t=some d)(hd:(match d with| .struct _| .array _ _=>true|_=>false)=false){a:V}{c:Value}(f:Rel G M h w)(j:Rp M a c)(e:aF a h=.ok r h'):
  Good P G M h w (G! t c) r h':=by
 obtain⟨i,o,rfl,e⟩:=mg e;obtain⟨wr,cs,hi,e⟩:=gX e;obtain⟨L,g,rfl⟩:=j.ptr;rw[nS]at e;split at e
 ·rename_i v l;cases e;obtain⟨x,m,b,_⟩:=f.cell hi g l;refine Good.same f (c:=x) ?_ b;simp only[G!,n!,loadVar,u!,c?,l!,UW k,hd];simp[run_load,m]
 ·cases e
theorem aFn{t:TypeId}{d:TypeDesc}{ti:TypeInfo}(p:P.underlying t=some d)(hd:(match d with| .struct _| .array _ _=>true|_=>false)=true)(b:P.info? t=some ti){a:V}{c:Value}
  (k:Rel G M h w) (n:Rp M a c) (e:bT ti.size a h=.ok r h'):Good P G M h w (G! t c) r h':=by
 obtain⟨i,o,rfl,e⟩:=mg e;obtain⟨wr,cs,hi,e⟩:=gX e;obtain⟨L,m,rfl⟩:=n.ptr;split at e
 ·rename_i l hl;cases e;obtain⟨xs,q,g,j,f⟩:=k.cells hi m hl;refine Good.same k (c:=.agg xs.toArray) ?_ (aef q j);have:=run_loadCells_list (P:=P) w (L.at o) xs f
  rw[g]at this;simp only[G!,n!,loadVar,u!,c?,l!,UW p,hd];simp[sizeOf,typeInfo,b,this]
 ·cases e
theorem zS{x:V}{c:Value}(e:Rp M x c)(g:gW x=true):∀y∈c.cells.toList,scalar y=true:=by
 intro y d;cases x with
 |agg a=>
  obtain⟨xs,_,j,rfl⟩:=e.agg;exact j y (by simpa[c!]using d)
 |tuple a=>cases g
 |nil=>cases e.1
 |cons a b=>cases e.1
 |bool b=>cases e.bool;simp[c!]at d;subst d;rfl
 |int k n=>cases e.int;simp[c!]at d;subst d;rfl
 |str s=>cases e.str.2;simp[c!]at d;subst d;rfl
 |ptr i o=>obtain⟨L,_,rfl⟩:=e.ptr;simp[c!]at d;subst d;rfl
 |bY=>cases e.bY;simp[c!]at d;subst d;rfl
 |slice i o n k=>obtain⟨L,m,_,_,rfl⟩:=e.slice;simp[c!]at d;subst d;rfl
 |aO=>cases e.aO;simp[c!]at d;subst d;rfl
 |emp=>obtain⟨a,k,rfl⟩:=e.emp;simp[c!]at d;subst d;rfl
 |map i=>obtain⟨L,_,rfl⟩:=e.map;simp[c!]at d;subst d;rfl
 |jW=>cases e.jW;simp[c!]at d;subst d;rfl
 |func f a b=>obtain⟨_,_,_,_,_,_,rfl⟩:=e.func;simp[c!]at d;subst d;rfl
 |iH=>cases e.iH;simp[c!]at d;subst d;rfl
 |iface t v=>obtain⟨_,_,rfl⟩:=e.iface;simp[c!]at d;subst d;rfl
 |oH=>cases e.oH;simp[c!]at d;subst d;rfl
theorem aEX{t:TypeId}{ti:TypeInfo}(l:P.info? t=some ti){a x:V}{c d:Value}(y:Rel G M h w)(B:Rp M a c)(m:Rp M x d)(e:aQ ti.size a x h=.ok r h'):
  ∃w',(O! t c d).run P w=.ok () w'/\r=V.undef/\Rel G M h' w'/\Ext M h w M h' w':=by
 obtain⟨i,o,rfl,e⟩:=mg e;obtain⟨wr,cs,hi,e⟩:=gX e;obtain⟨L,v,rfl⟩:=B.ptr;split at e
 ·rename_i C f0 j f;split at e
  ·rename_i n u;cases e;have g:=m.cells;obtain⟨w',p,q,s⟩:=y.store (P:=P) (qx hi) v u g (zS m j);refine⟨w',?_,rfl,q,s⟩;have k:d.cells.size=ti.size:=by
    have:=g.length;have z:=h! f;simp at this;omega
   simp[O!,n!,storeVar,sizeOf,typeInfo,l,k,p]
  ·cases e
 ·rename_i j f;unfold U4 at e;split at e
  ·rename_i b hb;split at e
   ·rename_i cs0;split at e
    ·rename_i n u;cases e;have g:=m.cells;obtain⟨w',p,q,s⟩:=y.RS (P:=P) hb v u g (zS m j);refine⟨w',?_,rfl,q,s⟩;have k:d.cells.size=ti.size:=by
      have:=g.length;have z:=h! f;simp at this;omega
     simp[O!,n!,storeVar,sizeOf,typeInfo,l,k,p]
    ·cases e
   ·cases e
  ·cases e
 ·cases e
theorem Rel.row(n:Rel G M h w)(vs:List V)(c:Array Value)(el:TypeId)(fr:Nat×Nat)(q:bV M vs (c.toList.take vs.length))(o:∀y∈c.toList,scalar y=true)
  (m:∀k,k<=c.size->¬(fr.1<=k/\k<fr.2)) (full:Bool) (d:full=true->c.size=vs.length) {w':World} (l:w'.heap=w.heap.push (.cells c el fr)) (i:w'.os=w.os) (p:w'.tape=w.tape) (f:w'.output=w.output):
  Rel G (M.add h.next ⟨w.heap.size,0,c.size⟩) (h.new (.cells (.rw el full) vs)) w'/\Ext M h w (M.add h.next ⟨w.heap.size,0,c.size⟩) (h.new (.cells (.rw el full) vs)) w':=by
 have b:∀(N:Mp),M.le N->∀(k:Nat) (v:V),vs[k]?=some v->∃x,c[0+k]?=some x/\Rp N v x/\scalar x=true:=by
  intro N e k v g;obtain⟨x,a,j⟩:=q.get g;rw[E!]at a;split at a
  ·exact⟨x,by simpa using a,j.mono e,o x (p! a)⟩
  ·cases a
 have:=n.new (.cells (.rw el full) vs) (.cells c el fr) c.size l i p f (λN e=>⟨c,el,fr,by rw[l];simp,rfl,b N e,rfl,λk _ g=>m k g,λh=>⟨rfl,d h⟩⟩);exact⟨this.1,this.2.1⟩
theorem aLT{t:TypeId}{x:V}{c:Value}(f:Rel G M h w)(b:Rp M x c)(e:fO t x h=.ok r h'):Good P G M h w (k? t c) r h':=by
 unfold fO at e;split at e
 ·rename_i d;cases e;have a:=b.cells;have hl:x.cells.length=c.cells.size:=by have:=a.length;simpa using this.symm
  have:=f.row (w':=w.alloc (.cells c.cells t)) x.cells c.cells t (0,0) (by rw[hl,<-Array.length_toList,List.take_length];exact a) (zS b d) (by simp) true (λ_=>hl.symm) rfl rfl rfl rfl;refine⟨.pointer (some ⟨w.heap.size,0,none⟩),_,_,?_,?_,this.1,this.2⟩
  ·simp[k?,newVar,newRow]
  ·exact xM (M.fP _ _) 0
 ·cases e
end
theorem J9{a b:IntKind}(h:e! (kix a) (kix b)=true):a=b:=by
 have:=h! h;cases a<;>cases b<;>first|rfl|(simp[kix]at this)
def fA{α:Type}(m:Nat)(k:Nat->α):α:=J! (motive:=λ_=>α) (k 0) (λn _=>k (Nat.succ n)) m
theorem dF{α:Type}(m:Nat)(k:Nat->α):fA m k=k m:=by cases m<;>rfl
def jd(k:IntKind)(n:Int)(h:Hp):R V:=match n with
 | .ofNat m=>fA m λm=>.ok (.int k (.ofNat m)) h
 | .negSucc m=>fA m λm=>.ok (.int k (.negSucc m)) h
theorem iq(k:IntKind)(n:Int)(h:Hp):jd k n h=.ok (.int k n) h:=by
 cases n<;>simp[jd,dF]
def fU(b:Bool)(h:Hp):R V:=match b with
 |true=>.ok (.bool true) h
 |false=>.ok (.bool false) h
theorem gJ(b:Bool)(h:Hp):fU b h=.ok (.bool b) h:=by cases b<;>rfl
def wrap64(n:Int):Int:=match n with
 | .ofNat m=>(match B! m 9223372036854775808 with|true=>.ofNat m|false=>w!.wrap (.ofNat m))
 | .negSucc m=>(match B! m 9223372036854775808 with|true=>.negSucc m|false=>w!.wrap (.negSucc m))
def wI(k:IntKind)(n:Int):Int:=match k with
 | .i64=>wrap64 n
 |k=>k.wrap n
theorem wrap_in{n:Int}(a: -9223372036854775808<=n)(b:n<9223372036854775808):w!.wrap n=n:=by
 exact IntWalk.i64_in n ⟨a,by omega⟩
theorem apZ(n:Int):wrap64 n=w!.wrap n:=by
 cases n with
 |ofNat m=>
  simp only[wrap64];split
  ·rename_i hb;have:m<9223372036854775808:=by simpa[v!]using hb
   rw[wrap_in]<;>simp<;>omega
  ·rfl
 |negSucc m=>
  simp only[wrap64];split
  ·rename_i hb;have:m<9223372036854775808:=by simpa[v!]using hb
   rw[wrap_in]<;>omega
  ·rfl
theorem zF(k:IntKind)(n:Int):wI k n=k.wrap n:=by
 cases k<;>simp[wI,apZ]
def ve:Int->Int->Bool
 | .ofNat a,.ofNat b=>Nat.ble a b
 | .negSucc a,.negSucc b=>Nat.ble b a
 | .negSucc _,.ofNat _=>true
 | .ofNat _,.negSucc _=>false
theorem zK(a b:Int):nJ a b=(a==b):=by
 cases a<;>cases b<;>simp only[nJ]
 ·rw[g!];simp[N!];omega
 ·rfl
 ·rfl
 ·rw[g!];simp[N!]
theorem SI(a b:Int):ve a b=decide (a<=b):=by
 cases a<;>cases b<;>simp only[ve]<;>rw[g!]<;>simp[Nat.ble_eq]<;>omega
def lK:List Nat->List Nat->Bool
 |_,[]=>false
 | [],_::_=>true
 |a::x,b::y=>(match B! a b with|true=>true|false=>(match e! a b with|true=>lK x y|false=>false))
theorem F7{a b:Nat}(c:a<256)(hb:b<256)(h:UInt8.ofNat a=UInt8.ofNat b):a=b:=by
 have:=congrArg UInt8.toNat h;simp at this;omega
theorem RN{a:Nat}(b:a<256):(UInt8.ofNat a).toNat=a:=by simp;omega
theorem amc(s:List Nat):(bts s).toList=s.map UInt8.ofNat:=by
 simp[bts]
theorem l7(s:List Nat):(bts s).size=s.length:=by simp[bts,ByteArray.size]
theorem ZM:∀{s t:List Nat},(∀b∈s,b<256)->(∀b∈t,b<256)->kS s t=(s.map UInt8.ofNat==t.map UInt8.ofNat)
 | [],[],_,_=>rfl
 | [],b::y,_,_=>rfl
 |a::x,[],_,_=>rfl
 |a::x,b::y,g,h=>by
  have j:=ZM (s:=x) (t:=y) (λc f=>g c (by simp[f])) (λc f=>h c (by simp[f]));simp only[kS,Z!];have i:=g a (by simp);have hb:=h b (by simp);show _=(UInt8.ofNat a==UInt8.ofNat b&&(x.map UInt8.ofNat==y.map UInt8.ofNat));cases d:e! a b with
  |true=>rw[h! d];simp[j]
  |false=>
   have:¬UInt8.ofNat a=UInt8.ofNat b:=λe=>o! d (F7 i hb e);simp[this]
theorem asz:∀{s t:List Nat},(∀b∈s,b<256)->(∀b∈t,b<256)->lK s t=i? (s.map UInt8.ofNat) (t.map UInt8.ofNat)
 | [],[],_,_=>rfl
 | [],b::y,_,_=>rfl
 |a::x,[],_,_=>rfl
 |a::x,b::y,g,h=>by
  have j:=asz (s:=x) (t:=y) (λc d=>g c (by simp[d])) (λc d=>h c (by simp[d]));have i:=g a (by simp);have hb:=h b (by simp);simp only[lK,Z!,i?,<-j];have f:decide (UInt8.ofNat a<UInt8.ofNat b)=B! a b:=by
   rw[g!];simp[UInt8.lt_iff_toNat_lt,v!];omega
  have heq:(UInt8.ofNat a==UInt8.ofNat b)=e! a b:=by
   rw[g!];simp only[beq_iff_eq,N!];exact⟨F7 i hb,λe=>by rw[e]⟩
  rw[f,heq];cases B! a b<;>cases e! a b<;>simp
inductive EqC where
 |none
 |bool
 |ptr (n:Nat)
 |slice
 |map
 |func
 |iface (lit:Bool)
 deriving Inhabited
def agH(c:EqC)(x y:V)(k:Bool->R V):R V:=
 match c with
 | .bool=>(match x,y with| .bool a,.bool b=>k (match a,b with|true,true=>true|false,false=>true|_,_=>false)|_,_=>.bad)
 | .ptr n=>(match x with
  | .bY=>(match y with| .bY=>k true| .ptr _ _=>k false|_=>.bad)
  | .ptr i o=>(match y with| .bY=>k false| .ptr j p=>(match e! n 0,i.eq j with|false,true=>k (e! o p)|_,_=>.bad)|_=>.bad)
  |_=>.bad)
 | .slice=>(match x,y with
  | .aO,.aO=>k true| .aO,.slice _ _ _ _=>k false| .aO,.emp=>k false| .slice _ _ _ _,.aO=>k false| .emp,.aO=>k false|_,_=>.bad)
 | .map=>(match x,y with| .jW,.jW=>k true| .jW,.map _=>k false| .map _,.jW=>k false|_,_=>.bad)
 | .func=>(match x,y with| .iH,.iH=>k true| .iH,.func _ _ _=>k false| .func _ _ _,.iH=>k false|_,_=>.bad)
 | .iface l=>(match x,y with
  | .oH,.oH=>(match l with|true=>k true|false=>.bad)
  | .oH,.iface _ _=>k false| .iface _ _,.oH=>k false
  | .iface t _,.iface u _=>(match e! t u with|false=>k false|true=>.bad)
  |_,_=>.bad)
 | .none=>.bad
def alY(op:BinOp)(k:IntKind)(a b:Int)(h:Hp):R V:=
 match op with
 | .add=>jd k (wI k (Int.add a b)) h
 | .sub=>jd k (wI k (Int.sub a b)) h
 | .mul=>jd k (wI k (Int.mul a b)) h
 | .quo=>(match nJ b 0 with|true=>.bad|false=>jd k (wI k (Int.tdiv a b)) h)
 | .rem=>(match nJ b 0 with|true=>.bad|false=>jd k (Int.tmod a b) h)
 | .and=>jd k (k.wrap (d! k.bits a&&&d! k.bits b).toNat) h
 | .or=>jd k (k.wrap (d! k.bits a|||d! k.bits b).toNat) h
 | .xor=>jd k (k.wrap (d! k.bits a^^^d! k.bits b).toNat) h
 | .andNot=>jd k (k.wrap (d! k.bits a&&&~~~d! k.bits b).toNat) h
 | .eql=>fU (nJ a b) h
 | .neq=>fU (not (nJ a b)) h
 | .lss=>fU (not (ve b a)) h
 | .leq=>fU (ve a b) h
 | .gtr=>fU (not (ve a b)) h
 | .geq=>fU (ve b a) h
 |_=>.bad
def XI(op:BinOp)(k:IntKind)(a b:Int)(h:Hp):R V:=
 match b with
 | .ofNat n=>(match op with
  | .shl=>jd k (k.wrap (a*2^(min n k.bits))) h
  | .shr=>jd k (a.fdiv (2^(min n k.bits))) h
  |_=>.bad)
 |_=>.bad
def aln(op:BinOp)(s t:List Nat)(h:Hp):R V:=
 match op with
 | .add=>(match B! (s.length+t.length) 4611686018427387904 with|true=>.ok (.str (s++t)) h|false=>.bad)
 | .eql=>fU (kS s t) h
 | .neq=>fU (not (kS s t)) h
 | .lss=>fU (lK s t) h
 | .leq=>fU (or (lK s t) (kS s t)) h
 | .gtr=>fU (not (or (lK s t) (kS s t))) h
 | .geq=>fU (not (lK s t)) h
 |_=>.bad
def Rl:BinOp->Bool
 | .shl| .shr=>true
 |_=>false
def aI(op:BinOp)(c:EqC)(x y:V)(h:Hp):R V:=
 match x with
 | .int k a=>(match y with
  | .int d b=>(match Rl op with
   |true=>XI op k a b h
   |false=>(match e! (kix k) (kix d) with|true=>alY op k a b h|false=>.bad))
  |_=>.bad)
 | .str s=>(match y with| .str t=>aln op s t h|_=>.bad)
 |x=>(match op with
  | .eql=>agH c x y λb=>fU b h
  | .neq=>agH c x y λb=>fU (not b) h
  |_=>.bad)
def ag4(d:TypeDesc)(sz:Nat)(lit:Bool):EqC:=match d with
 | .bool=>.bool
 | .pointer _=>.ptr sz
 | .slice _=>.slice
 | .map _ _=>.map
 | .func _ _ _=>.func
 | .interface ms=>.iface (lit||ms.isEmpty)
 |_=>.none
section
variable{P:Program}{G:Nat}{M:Mp}{h h':Hp}{w:World}{r:V}
def isC:Operand->Bool
 | .const _=>true
 |_=>false
theorem Bv{op:BinOp}{t:TypeId}{f g:Operand}{a b:Value}(d:a≠ .nilIface\/b≠ .nilIface)(e:∀c,a≠ .agg c):(eqGuard op t f g a b).run P w=.ok () w:=by
 unfold eqGuard;cases op<;>first
  |rfl
  |(cases a<;>first
    |exact absurd rfl (e _)
    |rfl
    |(cases b<;>first|rfl|exact absurd d (by simp)))
theorem aFt{op:BinOp}(f:Rl op=false){t:TypeId}{k:IntKind}{a b:Int}(j:Rel G M h w)(e:alY op k a b h=.ok r h'):
  Good P G M h w (binOp op t (.int k a) (.int k b)) r h':=by
 have fin:∀(v:Int) (s:Sem Value),s.run P w=.ok (.int k v) w->jd k v h=.ok r h'->Good P G M h w s r h':=by
  intro v s g e;rw[iq]at e;cases e;exact .same j g (gZ M k v)
 have c:∀(v:Bool) (s:Sem Value),s.run P w=.ok (.bool v) w->fU v h=.ok r h'->Good P G M h w s r h':=by
  intro v s g e;rw[gJ]at e;cases e;exact .same j g (yu M v)
 have i:∀x y:Int,(!ve y x)=decide (x<y):=by
  intro x y;rw[SI,g!];simp
 cases op<;>simp only[Rl]at f<;>simp only[alY,zF,zK,i]at e<;>(try simp only[SI]at e)
 case add=>exact fin _ _ (by simp[binOp,M!]) e
 case sub=>exact fin _ _ (by simp[binOp,M!];rfl) e
 case mul=>exact fin _ _ (by simp[binOp,M!]) e
 case quo=>
  split at e
  ·cases e
  ·rename_i hb;have d:b≠0:=by simpa using hb
   exact fin _ _ (by simp[binOp,Op.intDiv,d]) e
 case rem=>
  split at e
  ·cases e
  ·rename_i hb;have d:b≠0:=by simpa using hb
   exact fin _ _ (by simp[binOp,Op.intDiv,d]) e
 case and=>exact fin _ _ (by simp[binOp,H!]) e
 case or=>exact fin _ _ (by simp[binOp,H!]) e
 case xor=>exact fin _ _ (by simp[binOp,H!]) e
 case andNot=>exact fin _ _ (by simp[binOp,H!]) e
 case eql=>exact c _ _ (by simp[binOp,D!]) e
 case neq=>exact c _ _ (by simp[binOp,D!,bne]) e
 case lss=>exact c _ _ (by simp[binOp,D!]) e
 case leq=>exact c _ _ (by simp[binOp,D!]) e
 case gtr=>exact c _ _ (by simp[binOp,D!]) e
 case geq=>exact c _ _ (by simp[binOp,D!]) e
 all_goals cases e
theorem aAq{op:BinOp}(c:Rl op=true){t:TypeId}{k g:IntKind}{a b:Int}(f:Rel G M h w)(e:XI op k a b h=.ok r h'):
  Good P G M h w (binOp op t (.int k a) (.int g b)) r h':=by
 cases b with
 |negSucc n=>cases e
 |ofNat n=>
  simp only[XI]at e;have d:¬Int.ofNat n<0:=by simp
  cases op<;>simp only[Rl,Bool.false_eq_true]at c<;>simp only[iq]at e<;>cases e
  ·exact .same f (by simp only[binOp,Op.shift,d,if_false];rfl) (gZ M k _)
  ·exact .same f (by simp only[binOp,Op.shift,d,if_false];rfl) (gZ M k _)
theorem aBq(s t:List Nat):bts s++bts t=bts (s++t):=by
 apply ByteArray.ext;simp[bts]
theorem aEW{op:BinOp}{t:TypeId}{s u:List Nat}(d:∀b∈s,b<256)(f:∀b∈u,b<256)(g:Rel G M h w)(e:aln op s u h=.ok r h'):
  Good P G M h w (binOp op t (.string (bts s)) (.string (bts u))) r h':=by
 have a:∀(v:Bool) (s:Sem Value),s.run P w=.ok (.bool v) w->fU v h=.ok r h'->Good P G M h w s r h':=by
  intro v s d e;rw[gJ]at e;cases e;exact .same g d (yu M v)
 have e1:=ZM d f;have e2:=asz d f;have b1:=amc s;have b2:=amc u;cases op<;>simp only[aln,e1,e2]at e
 case add=>
  split at e
  ·rename_i hl;cases e;have i:s.length+u.length<4611686018427387904:=by simpa[v!]using hl
   have j:¬(((bts s).size+(bts u).size:Nat):Int)>w!.max:=by
    rw[l7,l7];simp only[IntKind.max,IntKind.signed,IntKind.bits,if_true];omega
   refine .same g (c:=.string (bts (s++u))) ?_ (RX (λb hb=>?_))
   ·simp only[binOp,q!,j,if_false,aBq];rfl
   ·rcases List.mem_append.1 hb with hb|hb
    ·exact d b hb
    ·exact f b hb
  ·cases e
 case eql=>exact a _ _ (by simp only[binOp,q!,b1,b2];rfl) e
 case neq=>exact a _ _ (by simp only[binOp,q!,b1,b2];rfl) e
 case lss=>exact a _ _ (by simp only[binOp,q!,b1,b2];rfl) e
 case leq=>exact a _ _ (by simp only[binOp,q!,b1,b2];rfl) e
 case gtr=>exact a _ _ (by simp only[binOp,q!,b1,b2];rfl) e
 case geq=>exact a _ _ (by simp only[binOp,q!,b1,b2];rfl) e
 all_goals cases e
theorem alA{t:TypeId}{ms:Array (String×TypeId)}(hd:P.underlying t=some (.interface ms)){op:BinOp}{a b:Operand}
  (hl:((isC a||isC b)||ms.isEmpty)=true):(eqGuard op t a b .nilIface .nilIface).run P w=.ok () w:=by
 by_cases c:(isC a||isC b)=true
 ·unfold eqGuard;cases a<;>cases b<;>first
   |(simp[isC]at c;done)
   |(cases op<;>rfl)
 ·have e:ms.isEmpty=true:=by
   cases e:ms.isEmpty
   ·rw[e,Bool.or_false]at hl;exact absurd hl c
   ·rfl
  have f:∀n,(Q! (n+1) t .nilIface .nilIface).run P w=.ok false w:=λn=>by
   simp[Q!,run_underlying hd,e]
  have d:(Q! l? t .nilIface .nilIface).run P w=.ok false w:=by rw[show l?=9999+1 from rfl];exact f 9999
  clear f;unfold eqGuard;cases a<;>cases b<;>first
   |(exfalso;exact c rfl)
   |(cases op<;>first|rfl|simp[d])
set_option maxHeartbeats 2000000 in
theorem asI{d:TypeDesc}{t:TypeId}{sz:Nat}{I J:Operand}(hd:P.underlying t=some d)(C:∀e,d=.pointer e->∃ti,P.info? e=some ti/\ti.size=sz)
  {x y:V} {a b:Value} (l:Rp M x a) (g:Rp M y b) {k:Bool->R V} (e:agH (ag4 d sz (isC I||isC J)) x y k=.ok r h'):
  ∃q,k q=.ok r h'/\(∀op,(eqGuard op t I J a b).run P w=.ok () w)/\(U! t a b).run P w=.ok q w/\(∀c,a≠ .agg c)/\
   (∀op z,(op=.eql->binOp op t a b=(do pure (.bool (<-U! t a b))))/\(op=.neq->z=0->binOp op t a b=(do pure (.bool (!(<-U! t a b)))))):=by
 have f:∀{a b:Value} {q:Bool},(∀n,(a! (n+1) t a b).run P w=.ok q w)->(U! t a b).run P w=.ok q w:=λh=>h 9999;have pl:∀{a b:Value},(a≠ .nilIface\/b≠ .nilIface)->(∀c,a≠ .agg c)->∀op,(eqGuard op t I J a b).run P w=.ok () w:=λQ S op=>Bv Q S;cases d<;>simp only[ag4,agH]at e
 case bool=>
  split at e
  ·cases l.bool;cases g.bool;rename_i p q;refine⟨_,e,pl (.inl (by simp)) (by simp),f (λn=>?_),by simp,λop z=>⟨λh=>by subst h;rfl,λh _=>by subst h;rfl⟩⟩;cases p<;>cases q<;>simp[a!,run_underlying hd]
  ·cases e
 case pointer el=>
  obtain⟨ti,D,E⟩:=C el rfl;split at e
  ·cases l.bY;split at e
   ·cases g.bY;exact⟨_,e,pl (.inl (by simp)) (by simp),f (λn=>by simp[a!,run_underlying hd]),by simp,λop z=>⟨λh=>by subst h;rfl,λh _=>by subst h;rfl⟩⟩
   ·obtain⟨L,O,rfl⟩:=g.ptr;exact⟨_,e,pl (.inl (by simp)) (by simp),f (λn=>by simp[a!,run_underlying hd]),by simp,λop z=>⟨λh=>by subst h;rfl,λh _=>by subst h;rfl⟩⟩
   ·cases e
  ·rename_i i o;obtain⟨L,O,rfl⟩:=l.ptr;split at e
   ·cases g.bY;exact⟨_,e,pl (.inl (by simp)) (by simp),f (λn=>by simp[a!,run_underlying hd]),by simp,λop z=>⟨λh=>by subst h;rfl,λh _=>by subst h;rfl⟩⟩
   ·rename_i j p;obtain⟨K,N,rfl⟩:=g.ptr;split at e
    ·rename_i U u;have s:=Pos.eq_iff.1 u;subst s;rw[O]at N;cases N;have B:ti.size≠0:=by rw[E];exact o! U
     refine⟨_,e,pl (.inl (by simp)) (by simp),f (λn=>?_),by simp,λop z=>⟨λh=>by subst h;rfl,λh _=>by subst h;rfl⟩⟩;have hb:(({block:=L.blk,off:=L.off+o,spot:=none}:Addr)=={block:=L.blk,off:=L.off+p,spot:=none})=e! o p:=by
      rw[g!];simp[N!]
     simp[a!,run_underlying hd,sizeOf,typeInfo,D,B,sameAddr,Loc.at,hb]
    ·cases e
   ·cases e
  ·cases e
 case slice el=>
  split at e
  ·cases l.aO;cases g.aO;exact⟨_,e,pl (.inl (by simp)) (by simp),f (λn=>by simp[a!,run_underlying hd]),by simp,λop z=>⟨λh=>by subst h;rfl,λh _=>by subst h;rfl⟩⟩
  ·cases l.aO;obtain⟨L,m,_,_,rfl⟩:=g.slice;exact⟨_,e,pl (.inl (by simp)) (by simp),f (λn=>by simp[a!,run_underlying hd]),by simp,λop z=>⟨λh=>by subst h;rfl,λh _=>by subst h;rfl⟩⟩
  ·cases l.aO;obtain⟨L,m,rfl⟩:=g.emp;exact⟨_,e,pl (.inl (by simp)) (by simp),f (λn=>by simp[a!,run_underlying hd]),by simp,λop z=>⟨λh=>by subst h;rfl,λh _=>by subst h;rfl⟩⟩
  ·cases g.aO;obtain⟨L,m,_,_,rfl⟩:=l.slice;exact⟨_,e,pl (.inl (by simp)) (by simp),f (λn=>by simp[a!,run_underlying hd]),by simp,λop z=>⟨λh=>by subst h;rfl,λh _=>by subst h;rfl⟩⟩
  ·cases g.aO;obtain⟨L,m,rfl⟩:=l.emp;exact⟨_,e,pl (.inl (by simp)) (by simp),f (λn=>by simp[a!,run_underlying hd]),by simp,λop z=>⟨λh=>by subst h;rfl,λh _=>by subst h;rfl⟩⟩
  ·cases e
 case map X W=>
  split at e
  ·cases l.jW;cases g.jW;exact⟨_,e,pl (.inl (by simp)) (by simp),f (λn=>by simp[a!,run_underlying hd]),by simp,λop z=>⟨λh=>by subst h;rfl,λh _=>by subst h;rfl⟩⟩
  ·cases l.jW;obtain⟨L,_,rfl⟩:=g.map;exact⟨_,e,pl (.inl (by simp)) (by simp),f (λn=>by simp[a!,run_underlying hd]),by simp,λop z=>⟨λh=>by subst h;rfl,λh _=>by subst h;rfl⟩⟩
  ·cases g.jW;obtain⟨L,_,rfl⟩:=l.map;exact⟨_,e,pl (.inl (by simp)) (by simp),f (λn=>by simp[a!,run_underlying hd]),by simp,λop z=>⟨λh=>by subst h;rfl,λh _=>by subst h;rfl⟩⟩
  ·cases e
 case func ps Y v=>
  split at e
  ·cases l.iH;cases g.iH;exact⟨_,e,pl (.inl (by simp)) (by simp),f (λn=>by simp[a!,run_underlying hd]),by simp,λop z=>⟨λh=>by subst h;rfl,λh _=>by subst h;rfl⟩⟩
  ·cases l.iH;obtain⟨_,_,_,_,_,_,rfl⟩:=g.func;exact⟨_,e,pl (.inl (by simp)) (by simp),f (λn=>by simp[a!,run_underlying hd]),by simp,λop z=>⟨λh=>by subst h;rfl,λh _=>by subst h;rfl⟩⟩
  ·cases g.iH;obtain⟨_,_,_,_,_,_,rfl⟩:=l.func;exact⟨_,e,pl (.inl (by simp)) (by simp),f (λn=>by simp[a!,run_underlying hd]),by simp,λop z=>⟨λh=>by subst h;rfl,λh _=>by subst h;rfl⟩⟩
  ·cases e
 case interface ms=>
  split at e
  ·cases l.oH;cases g.oH;split at e
   ·rename_i hl;refine⟨_,e,λop=>?_,f (λn=>by simp[a!,run_underlying hd]),by simp,λop z=>⟨λh=>by subst h;rfl,λh _=>by subst h;rfl⟩⟩;exact alA hd hl
   ·cases e
  ·cases l.oH;obtain⟨_,_,rfl⟩:=g.iface;exact⟨_,e,pl (.inr (by simp)) (by simp),f (λn=>by simp[a!,run_underlying hd]),by simp,λop z=>⟨λh=>by subst h;rfl,λh _=>by subst h;rfl⟩⟩
  ·cases g.oH;obtain⟨_,_,rfl⟩:=l.iface;exact⟨_,e,pl (.inl (by simp)) (by simp),f (λn=>by simp[a!,run_underlying hd]),by simp,λop z=>⟨λh=>by subst h;rfl,λh _=>by subst h;rfl⟩⟩
  ·obtain⟨_,_,rfl⟩:=l.iface;obtain⟨_,_,rfl⟩:=g.iface;split at e
   ·rename_i H;have:¬_=_:=o! H;exact⟨_,e,pl (.inl (by simp)) (by simp),f (λn=>by simp[a!,run_underlying hd,this]),by simp,λop z=>⟨λh=>by subst h;rfl,λh _=>by subst h;rfl⟩⟩
   ·cases e
  ·cases e
 all_goals cases e
theorem aLU{op:BinOp}{t:TypeId}{d:TypeDesc}{sz:Nat}{m n:Operand}(hd:P.underlying t=some d)(j:∀e,d=.pointer e->∃ti,P.info? e=some ti/\ti.size=sz)
  {x y:V} {a b:Value} (i:Rel G M h w) (k:Rp M x a) (l:Rp M y b) (e:aI op (ag4 d sz (isC m||isC n)) x y h=.ok r h'):
  Good P G M h w (do eqGuard op t m n a b;binOp op t a b) r h':=by
 have f:∀{s:Sem Value},(eqGuard op t m n a b).run P w=.ok () w->Good P G M h w s r h'->Good P G M h w (do eqGuard op t m n a b;s) r h':=by
  rintro s g ⟨c,w',M',u,v⟩;exact⟨c,w',M',by simp[g,u],v⟩
 unfold aI at e;split at e
 ·cases k.int;split at e
  ·cases l.int;refine f (Bv (.inl (by simp)) (by simp)) ?_;split at e
   ·rename_i p;exact aAq p i e
   ·rename_i p;split at e
    ·rename_i z;cases J9 z;exact aFt p i e
    ·cases e
  ·cases e
 ·cases k.str.2;split at e
  ·cases l.str.2;refine f (Bv (.inl (by simp)) (by simp)) ?_;exact aEW k.str.1 l.str.1 i e
  ·cases e
 ·split at e
  ·obtain⟨q,e,g,o,_,hb⟩:=asI (w:=w) hd j k l e;rw[gJ]at e;cases e;refine f (g _) (.same i ?_ (yu M q));rw[(hb .eql 0).1 rfl];simp[o]
  ·obtain⟨q,e,g,o,_,hb⟩:=asI (w:=w) hd j k l e;rw[gJ]at e;cases e;refine f (g _) (.same i ?_ (yu M _));rw[(hb .neq 0).2 rfl rfl];simp[o]
  ·cases e
def arY(c a b:V)(h:Hp):R V:=asBool c λq=>match q with|true=>.ok a h|false=>.ok b h
def aP(x:V)(h:Hp):R V:=match x with
 | .bY| .oH| .iH=>.bad
 | .func fn a b=>(match fn with| .method _=>.bad|_=>.ok (.func fn a b) h)
 |x=>.ok x h
def aAM(n:Nat)(l:V):Option V:=
 J! (motive:=λ_=>V->Option V) (λl=>match l with| .cons a _=>some a|_=>none) (λ_ b l=>match l with| .cons _ t=>b t|_=>none) n l
theorem ayb(n:Nat):∀l:V,aAM n l=l.list[n]?:=by
 induction n with
 |zero=>intro l;cases l<;>rfl
 |succ n a=>intro l;cases l<;>first|exact a _|rfl
def bQ(n:Nat)(x:V)(h:Hp):R V:=match x with
 | .tuple l=>(match aAM n l with|some v=>.ok v h|none=>.bad)
 |_=>.bad
def oUn(op:UnOp)(x:V)(h:Hp):R V:=match op with
 | .neg=>asInt x λk n=>jd k (wI k (Int.sub 0 n)) h
 | .xor=>asInt x λk n=>jd k (k.wrap (d! k.bits (if k.signed then -1 else k.max)^^^d! k.bits n).toNat) h
 | .not=>asBool x λb=>fU (not b) h
 | .plus=>.bad
def jV(k:IntKind)(x:V)(h:Hp):R V:=asInt x λ_ n=>jd k (wI k n) h
def Sv(x:V)(h:Hp):R V:=match x with| .str s=>.ok (.str s) h|_=>.bad
def ath(t:TypeId)(x:V)(h:Hp):R V:=.ok (.iface t x) h
def fC(fn:Fn)(f c:List V)(h:Hp):R V:=match aop fn with|true=>.ok (.func fn (V.ofList f) (V.ofList c)) h|false=>.bad
def aC(off:Nat)(x:V)(h:Hp):R V:=tu x λi o=>fA (o+off) λq=>.ok (.ptr i q) h
def aX(sz:Nat)(x i:V)(h:Hp):R V:=mr i λk=>match x with
 | .slice i o n _=>(match B! k n with|true=>fA (o+k*sz) λq=>.ok (.ptr i q) h|false=>.bad)
 |_=>.bad
def aAI(len sz:Nat)(x i:V)(h:Hp):R V:=mr i λk=>tu x λi o=>
 match B! k len with|true=>fA (o+k*sz) λq=>.ok (.ptr i q) h|false=>.bad
def aFf(n:Nat)(l:List Nat):Option Nat:=
 J! (motive:=λ_=>List Nat->Option Nat) (λl=>k! l none (λa _=>some a)) (λ_ b l=>k! l none (λ_ t=>b t)) n l
theorem aya(n:Nat):∀l:List Nat,aFf n l=l[n]?:=by
 induction n with
 |zero=>intro l;cases l<;>rfl
 |succ n b=>intro l;cases l with
  |nil=>rfl
  |cons a t=>exact(b t).trans (by simp)
def kG(x i:V)(h:Hp):R V:=mr i λk=>match x with
 | .str s=>(match aFf k s with|some b=>.ok (.int .u8 (.ofNat b)) h|none=>.bad)
 |_=>.bad
def aAF(a:Bool)(sz off:Nat)(x:V)(h:Hp):R V:=match x with
 | .agg l=>(match a with
  |false=>(match aAM off l with|some v=>.ok v h|none=>.bad)
  |true=>(match gQ sz (eP off l.list) with|some vs=>.ok (.agg (V.ofList vs)) h|none=>.bad))
 |_=>.bad
theorem awC{x:V}{a:Value}(j:Rp M x a)(e:aP x h=.ok r h'):r=x/\h'=h/\
  (∀ρ o op,o.op=.nilCheck op->ρ op=a->(execOp ρ o).run P w=.ok (.value a) w):=by
 have fin:∀{x:V} {a:Value},(R.ok x h:R V)=.ok r h'->(∀ρ o op,o.op=Op.nilCheck op->ρ op=a->(execOp ρ o).run P w=.ok (.value a) w)->
   r=x/\h'=h/\(∀ρ o op,o.op=.nilCheck op->ρ op=a->(execOp ρ o).run P w=.ok (.value a) w):=by
  intro x a e hh;cases e;exact⟨rfl,rfl,hh⟩
 cases x with
 |bY=>cases e
 |oH=>cases e
 |iH=>cases e
 |func fn p q=>
  obtain⟨g,_,_,u,_,_,rfl⟩:=j.func;cases fn with
  |method n=>cases e
  |yield k=>obtain⟨L,_,rfl⟩:=u;exact fin e (λ ρ o op d c=>by simp only[execOp,d,c];rfl)
  |func f=>obtain rfl:g=.func f:=u;exact fin e (λ ρ o op d c=>by simp only[execOp,d,c];rfl)
  |methodOf t n=>obtain rfl:g=.methodOf t n:=u;exact fin e (λ ρ o op d c=>by simp only[execOp,d,c];rfl)
  |via t y f b=>obtain rfl:g=.via t y f b:=u;exact fin e (λ ρ o op d c=>by simp only[execOp,d,c];rfl)
 |nil=>cases j.1
 |cons a b=>cases j.1
 |bool b=>cases j.bool;exact fin e (λ ρ o op d c=>by simp only[execOp,d,c];rfl)
 |int k n=>cases j.int;exact fin e (λ ρ o op d c=>by simp only[execOp,d,c];rfl)
 |str s=>cases j.str.2;exact fin e (λ ρ o op d c=>by simp only[execOp,d,c];rfl)
 |ptr i o=>obtain⟨L,_,rfl⟩:=j.ptr;exact fin e (λ ρ o op d c=>by simp only[execOp,d,c];rfl)
 |slice i o n k=>obtain⟨L,m,_,_,rfl⟩:=j.slice;exact fin e (λ ρ o op d c=>by simp only[execOp,d,c];rfl)
 |aO=>cases j.aO;exact fin e (λ ρ o op d c=>by simp only[execOp,d,c];rfl)
 |emp=>obtain⟨_,_,rfl⟩:=j.emp;exact fin e (λ ρ o op d c=>by simp only[execOp,d,c];rfl)
 |map i=>obtain⟨L,_,rfl⟩:=j.map;exact fin e (λ ρ o op d c=>by simp only[execOp,d,c];rfl)
 |jW=>cases j.jW;exact fin e (λ ρ o op d c=>by simp only[execOp,d,c];rfl)
 |iface t v=>obtain⟨_,_,rfl⟩:=j.iface;exact fin e (λ ρ o op d c=>by simp only[execOp,d,c];rfl)
 |agg l=>obtain⟨_,_,_,rfl⟩:=j.agg;exact fin e (λ ρ o op d c=>by simp only[execOp,d,c];rfl)
 |tuple l=>obtain⟨_,_,rfl⟩:=j.tuple;exact fin e (λ ρ o op d c=>by simp only[execOp,d,c];rfl)
theorem aA5{n:Nat}{x:V}{a:Value}(f:Rel G M h w)(g:Rp M x a)(e:bQ n x h=.ok r h'):Good P G M h w (Y! a n) r h':=by
 unfold bQ at e;split at e
 ·obtain⟨l,hl,rfl⟩:=g.tuple;split at e
  ·rename_i v d;cases e;rw[ayb]at d;obtain⟨y,i,b⟩:=hl.get d;exact .same f (c:=y) (by simp[Y!,i]) b
  ·cases e
 ·cases e
theorem aNv{op:UnOp}{x:V}{a:Value}(c:Rel G M h w)(d:Rp M x a)(e:oUn op x h=.ok r h'):Good P G M h w (T! op a) r h':=by
 cases op
 case neg=>
  obtain⟨k,n,rfl,e1⟩:=Eo e;cases d.int;rw[iq,zF]at e1;cases e1;exact .same c (by simp[T!,M!,show Int.sub 0 n=0 - n from rfl]) (gZ M k _)
 case xor=>
  obtain⟨k,n,rfl,e1⟩:=Eo e;cases d.int;rw[iq]at e1;cases e1;exact .same c (by simp[T!,H!]) (gZ M k _)
 case not=>
  obtain⟨b,rfl,e1⟩:=aqx e;cases d.bool;rw[gJ]at e1;cases e1;exact .same c (by simp[T!]) (yu M _)
 case plus=>cases e
theorem aBh{s d:TypeId}{ds:TypeDesc}{k:IntKind}(c:P.underlying s=some ds)(hd:P.underlying d=some (.int k)){x:V}{a:Value}(b:Rel G M h w)(f:Rp M x a)(e:jV k x h=.ok r h'):
  Good P G M h w (convert s d a) r h':=by
 obtain⟨g,n,rfl,e1⟩:=Eo e;cases f.int;rw[iq,zF]at e1;cases e1;exact .same b (by simp[convert,run_underlying c,run_underlying hd,Conv.intToInt]) (gZ M k _)
theorem aBg{s d:TypeId}{ds:TypeDesc}(g:P.underlying s=some ds)(hd:P.underlying d=some .string){x:V}{a:Value}(f:Rel G M h w)(b:Rp M x a)(e:Sv x h=.ok r h'):
  Good P G M h w (convert s d a) r h':=by
 unfold Sv at e;split at e
 ·cases b.str.2;cases e;refine .same f (c:=.string (bts _)) ?_ b;simp only[convert,u!,run_underlying g,run_underlying hd,l!];cases ds<;>rfl
 ·cases e
theorem aFw{t:TypeId}{d:TypeDesc}(hd:P.underlying t=some d)(b:∀ms,d≠ .interface ms){x:V}{a:Value}(g:Rel G M h w)(f:Rp M x a)(e:ath t x h=.ok r h'):
  Good P G M h w (S! t a) r h':=by
 cases e;refine .same g (c:=.iface t a) ?_ ⟨rfl,a,f.1,f.2,rfl⟩;simp only[S!,u!,run_underlying hd,l!];cases d<;>first|rfl|exact absurd rfl (b _)
theorem aH1{fn:Fn}{f c:List V}{x y:List Value}(g:Rel G M h w)(b:bV M f x)(a:bV M c y)(e:fC fn f c h=.ok r h'):
  Good P G M h w (Instr.makeFunc fn x.toArray y.toArray) r h':=by
 unfold fC at e;split at e
 ·rename_i d;cases e;exact .same g (c:=.func fn x.toArray y.toArray) rfl ⟨rfl,fn,x,y,.plain M d,⟨V.dG f,V.dG c⟩,b.to,a.to,rfl⟩
 ·cases e
theorem Loc.Gw(L:Loc)(o n:Nat):(L.at o).add n=L.at (o+n):=by
 unfold Loc.at Addr.add;split
 ·simp_all
 ·simp[a?]
theorem at6{t:TypeId}{d:Array Field}{n:Nat}{f:Field}{ti:TypeInfo}(l:P.underlying t=some (.struct d))(j:d[n]?=some f)(b:P.info? f.type=some ti)(p:ti.size≠0)
  {x:V} {a:Value} (k:Rel G M h w) (m:Rp M x a) (e:aC f.offset x h=.ok r h'):Good P G M h w (X! t a n) r h':=by
 obtain⟨i,o,rfl,e1⟩:=mg e;obtain⟨L,g,rfl⟩:=m.ptr;rw[dF]at e1;cases e1;refine .same k (c:=.pointer (some (L.at (o+f.offset)))) ?_ (xM g _);simp[X!,run_underlying l,j,n!,fieldPlace,sizeOf,typeInfo,b,p,Loc.Gw]
theorem aHW{t el:TypeId}{ti:TypeInfo}(p:P.underlying t=some (.slice el))(g:P.info? el=some ti){x i:V}{a b:Value}(l:Rel G M h w)(q:Rp M x a)(hi:Rp M i b)(e:aX ti.size x i h=.ok r h'):
  Good P G M h w (C! t a b) r h':=by
 obtain⟨k,n,rfl,e1⟩:=oW e;clear e;cases hi.int;have e:=e1;clear e1;split at e
 ·rename_i i o len cap;obtain⟨L,m,j,_,rfl⟩:=q.slice;split at e
  ·rename_i f;rw[dF]at e;cases e;have d:n<len:=by simpa[v!]using f
   refine .same l (c:=.pointer (some (L.at (o+n*ti.size)))) ?_ (xM j _);simp[C!,asIntOf,run_underlying p,d,sizeOf,typeInfo,g,Loc.Gw]
  ·cases e
 ·cases e
theorem aHY{t el:TypeId}{len:Nat}{ti:TypeInfo}(m:P.underlying t=some (.array len el))(g:P.info? el=some ti){x i:V}{a b:Value}(l:Rel G M h w)(p:Rp M x a)(hi:Rp M i b)(e:aAI len ti.size x i h=.ok r h'):
  Good P G M h w (C! t a b) r h':=by
 obtain⟨k,n,rfl,e1⟩:=oW e;clear e;cases hi.int;obtain⟨i,o,rfl,e⟩:=mg e1;clear e1;obtain⟨L,j,rfl⟩:=p.ptr;split at e
 ·rename_i f;rw[dF]at e;cases e;have d:n<len:=by simpa[v!]using f
  refine .same l (c:=.pointer (some (L.at (o+n*ti.size)))) ?_ (xM j _);simp[C!,asIntOf,run_underlying m,n!,d,sizeOf,typeInfo,g,Loc.Gw]
 ·cases e
theorem aCI{t:TypeId}(o:P.underlying t=some .string){x i:V}{a b:Value}(l:Rel G M h w)(p:Rp M x a)(hi:Rp M i b)(e:kG x i h=.ok r h'):
  Good P G M h w (b? t a b) r h':=by
 obtain⟨k,n,rfl,e1⟩:=oW e;clear e;cases hi.int;have e:=e1;clear e1;split at e
 ·rename_i s;obtain⟨m,rfl⟩:=p.str;split at e
  ·rename_i c d;cases e;rw[aya]at d;have hb:(bts s)[n]?=some (UInt8.ofNat c):=by
    have g:n<s.length:=(r!.1 d).1;have:(bts s).data[n]?=some (UInt8.ofNat c):=by simp[bts,d]
    rw[getElem?_pos (bts s) n (by rw[l7];exact g)];have j:=(b!.1 this).2;exact congrArg some j
   have f:=RN (m c (p! d));refine .same l (c:=.int .u8 (.ofNat c)) ?_ (gZ M _ _);simp[b?,asIntOf,run_underlying o,hb,f]
  ·cases e
 ·cases e
end
end Go.Vm
