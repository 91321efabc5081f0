/- Part of the claim: facts that its last text uses. No conditions. -/
import Derived.Orders
import Derived.Laws.CopyRow
import Derived.Laws.IdiomCopy
import Derived.ArgAppend
import Derived.Laws.Append
import Derived.Below
import Derived.IntWalk
import Derived.Laws.Strings
import Derived.LaidEql
set_option linter.all false
namespace Go.Vm
inductive Pos where
 |h
 |o (p:Pos)
 |i (p:Pos)
 deriving Inhabited
namespace Pos
def nat:Pos→Nat
 | .h=>0
 | .o p=>2*p.nat+1
 | .i p=>2*p.nat+2
def succ:Pos→Pos
 | .h=>.o .h
 | .o p=>.i p
 | .i p=>.o p.succ
theorem dS(p:Pos):p.succ.nat=p.nat+1:=by
 induction p with
 |h=>rfl
 |o p ih=>simp [succ,nat]
 |i p ih=>simp only [succ,nat,ih];omega
theorem fU{p q:Pos}(h:p.nat=q.nat):p=q:=by
 induction p generalizing q with
 |h=>cases q<;>simp [nat] at h⊢
 |o p ih=>cases q with
  |h=>simp [nat] at h
  |o q=>rw [ih (q:=q) (by simp [nat] at h;omega)]
  |i q=>simp [nat] at h;omega
 |i p ih=>cases q with
  |h=>simp [nat] at h
  |o q=>simp [nat] at h;omega
  |i q=>rw [ih (q:=q) (by simp [nat] at h;omega)]
def eq:Pos→Pos→Bool
 | .h,.h=>true
 | .o p,.o q=>p.eq q
 | .i p,.i q=>p.eq q
 |_,_=>false
theorem eq_iff{p q:Pos}:p.eq q=true↔p=q:=by
 induction p generalizing q with
 |h=>cases q<;>simp [eq]
 |o p ih=>cases q<;>simp [eq,ih]
 |i p ih=>cases q<;>simp [eq,ih]
theorem eq_false{p q:Pos}:p.eq q=false↔p≠q:=by
 rw [←Bool.not_eq_true,eq_iff]
instance:DecidableEq Pos:=fun _ _=>decidable_of_iff _ eq_iff
theorem eq_self(p:Pos):p.eq p=true:=eq_iff.2 rfl
def qJ:Nat→Nat→Pos
 |0,_=>.h
 |_+1,0=>.h
 |f+1,n+1=>cond (Nat.beq (n % 2) 0) (.o (qJ f (n / 2))) (.i (qJ f (n / 2)))
def of(n:Nat):Pos:=qJ n n
theorem abJ(f n:Nat)(h:n≤f):(qJ f n).nat=n:=by
 induction f generalizing n with
 |zero=>simp [qJ,nat];omega
 |succ f ih=>
  cases n with
  |zero=>rfl
  |succ n=>
   simp only [qJ]
   cases hb:Nat.beq (n % 2) 0 with
   |true=>
    have:n % 2=0:=Nat.eq_of_beq_eq_true hb
    simp only [cond_true,nat,ih (n / 2) (by omega)];omega
   |false=>
    have:n % 2≠0:=Nat.ne_of_beq_eq_false hb
    simp only [cond_false,nat,ih (n / 2) (by omega)];omega
theorem dm(n:Nat):(of n).nat=n:=abJ n n (Nat.le_refl n)
theorem ve{m n:Nat}(h:of m=of n):m=n:=by
 have:=congrArg nat h;rwa [dm,dm] at this
end Pos
inductive T (α:Type) where
 |nil
 |node (v:Option α) (l r:T α)
 deriving Inhabited
namespace T
variable{α:Type}
noncomputable section
def val(t:T α):Option α:=T.casesOn t none (fun v _ _=>v)
def left(t:T α):T α:=T.casesOn t .nil (fun _ l _=>l)
def get(t:T α)(p:Pos):Option α:=
 Pos.rec (motive:=fun _=>T α→Option α) (fun t=>T.casesOn t none (fun v _ _=>v))
  (fun _ ih t=>T.casesOn t none (fun _ l _=>ih l)) (fun _ ih t=>T.casesOn t none (fun _ _ r=>ih r)) p t
def set(x:Option α)(p:Pos)(t:T α):T α:=
 Pos.rec (motive:=fun _=>T α→T α)
  (fun t=>T.casesOn t (.node x .nil .nil) (fun _ l r=>.node x l r))
  (fun _ ih t=>T.casesOn t (.node none (ih .nil) .nil) (fun v l r=>.node v (ih l) r))
  (fun _ ih t=>T.casesOn t (.node none .nil (ih .nil)) (fun v l r=>.node v l (ih r))) p t
theorem get_nil(p:Pos):(T.nil:T α).get p=none:=by cases p<;>rfl
theorem gU(x:Option α)(p:Pos)(t:T α):(t.set x p).get p=x:=by
 induction p generalizing t with
 |h=>cases t<;>rfl
 |o p ih=>cases t with
  |nil=>exact ih .nil
  |node v l r=>exact ih l
 |i p ih=>cases t with
  |nil=>exact ih .nil
  |node v l r=>exact ih r
theorem iO(x:Option α){p q:Pos}(hne:q≠p)(t:T α):(t.set x p).get q=t.get q:=by
 induction p generalizing q t with
 |h=>cases q with
  |h=>exact absurd rfl hne
  |o q=>cases t<;>first|rfl|exact get_nil q
  |i q=>cases t<;>first|rfl|exact get_nil q
 |o p ih=>cases q with
  |h=>cases t<;>rfl
  |o q=>
   have hn:q≠p:=fun e=>hne (by rw [e])
   cases t with
   |nil=>exact(ih hn .nil).trans (get_nil q)
   |node v l r=>exact ih hn l
  |i q=>cases t<;>first|rfl|exact get_nil q
 |i p ih=>cases q with
  |h=>cases t<;>rfl
  |o q=>cases t<;>first|rfl|exact get_nil q
  |i q=>
   have hn:q≠p:=fun e=>hne (by rw [e])
   cases t with
   |nil=>exact(ih hn .nil).trans (get_nil q)
   |node v l r=>exact ih hn r
theorem ayg(x:Option α)(p q:Pos)(t:T α):(t.set x p).get q=if q=p then x else t.get q:=by
 by_cases h:q=p
 ·subst h;rw [gU,if_pos rfl]
 ·rw [iO _ h,if_neg h]
end
end T
end Go.Vm
namespace Go.Vm
inductive Cap where
 |kn (c:Nat)
 |un (sz:Nat)
 deriving Inhabited
inductive V where
 |bool (b:Bool)
 |int (k:IntKind) (n:Int)
 |str (s:List Nat)
 |ptr (i:Pos) (o:Nat)
 |fJ
 |slice (i:Pos) (o len:Nat) (cap:Cap)
 |af
 |emp
 |map (i:Pos)
 |gG
 |func (fn:Fn) (first captured:V)
 |iR
 |iface (t:TypeId) (v:V)
 |iw
 |agg (l:V)
 |tuple (l:V)
 |nil
 |cons (a b:V)
 deriving Inhabited
def V.undef:V:=.tuple .nil
def V.list:V→List V
 | .cons a b=>a::b.list
 |_=> []
def V.ofList:List V→V
 | []=>.nil
 |a::l=>.cons a (V.ofList l)
def V.isRow:V→Bool
 | .nil| .cons _ _=>true
 |_=>false
def V.cells:V→List V
 | .agg l=>l.list
 |v=> [v]
inductive Wr where
 |ro
 |rw (t:TypeId) (full:Bool)
def Wr.own:Wr→Bool
 | .ro=>false
 | .rw _ _=>true
inductive Ob where
 |cells (w:Wr) (cs:List V)
 |map (es:List (V×V))
 |iter (s:List Nat) (pos:Nat)
 |bytes (cs:List V)
def Ob.row:Ob→Option (Wr×List V)
 | .cells w cs=>some (w,cs)
 | .bytes cs=>some (.ro,cs)
 |_=>none
def Ob.own:Ob→Bool
 | .cells w _=>w.own
 |_=>true
structure Hp where
 t:T Ob
 next:Pos
noncomputable def Hp.get(h:Hp)(i:Pos):Option Ob:=h.t.get i
noncomputable def Hp.put(h:Hp)(i:Pos)(o:Option Ob):Hp:=⟨h.t.set o i,h.next⟩
noncomputable def Hp.new(h:Hp)(o:Ob):Hp:=⟨h.t.set (some o) h.next,h.next.succ⟩
inductive R (α:Type) where
 |ok (a:α) (h:Hp)
 |bad
structure Loc where
 blk:Nat
 off:Nat
 size:Nat
def Loc.at(L:Loc)(o:Nat):Addr:=⟨L.blk,L.off+o,none⟩
abbrev Mp:=Pos→Option Loc
def Mp.le(M N:Mp):Prop:=∀i L,M i=some L→N i=some L
theorem Mp.le_refl(M:Mp):M.le M:=fun _ _ h=>h
theorem Mp.le_trans{M N O:Mp}(h:M.le N)(g:N.le O):M.le O:=fun i L e=>g i L (h i L e)
def bts(s:List Nat):ByteArray:=⟨(s.map UInt8.ofNat).toArray⟩
def scalar:Value→Bool
 | .agg _| .tuple _=>false
 |_=>true
def xU(L:Loc)(o n:Nat):Cap→Nat→Prop
 | .kn c,k=>k=c∧n≤c
 | .un sz,k=>(n≤k∧k≤9223372036854775807)∧L.off+o+k*sz=L.size
def jM(M:Mp):Fn→Fn→Prop
 | .yield k,g=>∃L,M (Pos.of k)=some L∧g=.yield L.blk
 | .func f,g=>g=.func f
 | .method n,g=>g=.method n
 | .methodOf t n,g=>g=.methodOf t n
 | .via t p f b,g=>g=.via t p f b
theorem jM.mono{M N:Mp}(hle:M.le N){f g:Fn}(h:jM M f g):jM N f g:=by
 cases f<;>first|exact h|(obtain⟨L,a,b⟩:=h;exact⟨L,hle _ _ a,b⟩)
def D6:Fn→Bool
 | .yield _=>false
 | .func _=>true
 | .method _=>true
 | .methodOf _ _=>true
 | .via _ _ _ _=>true
theorem jM.plain(M:Mp){f:Fn}(h:D6 f=true):jM M f f:=by
 cases f<;>first|rfl|cases h
theorem jM.eq{M:Mp}{f g:Fn}(h:jM M f g)(hp:D6 f=true):g=f:=by
 cases f<;>first|exact h|cases hp
def Rep(M:Mp):V→List Value→Prop
 | .bool b,l=>l= [.bool b]
 | .int k n,l=>l= [.int k n]
 | .str s,l=>(∀b∈s,b<256)∧l= [.string (bts s)]
 | .ptr i o,l=>∃L,M i=some L∧l= [.pointer (some (L.at o))]
 | .fJ,l=>l= [.pointer none]
 | .slice i o n c,l=>∃L k,M i=some L∧xU L o n c k∧l= [.slice (some (L.at o)) n k]
 | .af,l=>l= [.slice none 0 0]
 | .emp,l=>∃a k,l= [.slice (some a) 0 k]
 | .map i,l=>∃L,M i=some L∧l= [.map (some L.blk)]
 | .gG,l=>l= [.map none]
 | .func fn a b,l=>∃g x y,jM M fn g∧(a.isRow=true∧b.isRow=true)∧Rep M a x∧Rep M b y∧l= [.func g x.toArray y.toArray]
 | .iR,l=>l= [.nilFunc]
 | .iface t v,l=>∃x,v.isRow=false∧Rep M v [x]∧l= [.iface t x]
 | .iw,l=>l= [.nilIface]
 | .agg a,l=>∃x,a.isRow=true∧Rep M a x∧(∀y∈x,scalar y=true)∧l= [.agg x.toArray]
 | .tuple a,l=>∃x,a.isRow=true∧Rep M a x∧l= [.tuple x.toArray]
 | .nil,l=>l= []
 | .cons a b,l=>∃x xs,a.isRow=false∧Rep M a [x]∧b.isRow=true∧Rep M b xs∧l=x::xs
theorem Rep.mono{M N:Mp}(hle:M.le N){v:V}:∀{l:List Value},Rep M v l→Rep N v l:=by
 induction v with
 |ptr i o=>rintro l ⟨L,h,e⟩;exact⟨L,hle _ _ h,e⟩
 |slice i o n c=>rintro l ⟨L,k,h,hc,e⟩;exact⟨L,k,hle _ _ h,hc,e⟩
 |map i=>rintro l ⟨L,h,e⟩;exact⟨L,hle _ _ h,e⟩
 |func fn a b iha ihb=>rintro l ⟨f,x,y,q,p,h,g,e⟩;exact⟨f,x,y,q.mono hle,p,iha h,ihb g,e⟩
 |iface t v ih=>rintro l ⟨x,p,h,e⟩;exact⟨x,p,ih h,e⟩
 |agg a ih=>rintro l ⟨x,p,h,e⟩;exact⟨x,p,ih h,e⟩
 |tuple a ih=>rintro l ⟨x,p,h,e⟩;exact⟨x,p,ih h,e⟩
 |cons a b iha ihb=>rintro l ⟨x,xs,q,h,p,g,e⟩;exact⟨x,xs,q,iha h,p,ihb g,e⟩
 |_=>intro l h;exact h
def Rp(M:Mp)(v:V)(c:Value):Prop:=v.isRow=false∧Rep M v [c]
theorem Rp.mono{M N:Mp}(hle:M.le N){v:V}{c:Value}(h:Rp M v c):Rp N v c:=⟨h.1,h.2.mono hle⟩
def aX(M:Mp):List V→List Value→Prop
 | [],l=>l= []
 |v::vs,l=>∃x xs,Rp M v x∧aX M vs xs∧l=x::xs
theorem aX.mono{M N:Mp}(hle:M.le N):∀{vs:List V} {l:List Value},aX M vs l→aX N vs l
 | [],_,h=>h
 |_::_,_,⟨x,xs,h,g,e⟩=>⟨x,xs,h.mono hle,aX.mono hle g,e⟩
theorem aX.length{M:Mp}:∀{vs:List V} {l:List Value},aX M vs l→l.length=vs.length
 | [],_,h=>by rw [show _= [] from h];rfl
 |_::_,_,⟨x,xs,_,g,e⟩=>by rw [e];simp [aX.length g]
theorem aX.get{M:Mp}:∀{vs:List V} {l:List Value} (_:aX M vs l) {k:Nat} {v:V},vs[k]?=some v→∃x,l[k]?=some x∧Rp M v x
 | [],_,_,k,v,h=>by simp at h
 |u::vs,_,⟨x,xs,hx,g,e⟩,0,v,h=>by
  simp at h;subst h;subst e;exact⟨x,rfl,hx⟩
 |u::vs,_,⟨x,xs,hx,g,e⟩,k+1,v,h=>by
  subst e;simp at h⊢;exact aX.get g h
theorem aX.mk{M:Mp}:∀{vs:List V} {l:List Value},l.length=vs.length→(∀(k:Nat) (v:V),vs[k]?=some v→∃x,l[k]?=some x∧Rp M v x)→aX M vs l
 | [],l,h,_=>List.length_eq_zero_iff.1 (by simpa using h)
 |v::vs,[],h,_=>by simp at h
 |v::vs,x::l,h,g=>by
  refine⟨x,l,?_,aX.mk (by simpa using h) (fun k u hu=>?_),rfl⟩
  ·obtain⟨y,hy,hr⟩:=g 0 v rfl
   simp at hy;rw [hy];exact hr
  ·obtain⟨y,hy,hr⟩:=g (k+1) u (by simpa using hu)
   exact⟨y,by simpa using hy,hr⟩
theorem aX.append{M:Mp}:∀{vs us:List V} {l k:List Value},aX M vs l→aX M us k→aX M (vs++us) (l++k)
 | [],_,_,_,h,g=>by rw [h];exact g
 |_::_,_,_,_,⟨x,xs,h,g,e⟩,g'=>⟨x,_,h,aX.append g g',by rw [e];rfl⟩
theorem aX.of{M:Mp}:∀{v:V} {l:List Value},v.isRow=true→Rep M v l→aX M v.list l:=by
 intro v
 induction v with
 |nil=>intro l _ h;exact h
 |cons a b _ ihb=>rintro l _ ⟨x,xs,q,h,p,g,e⟩;exact⟨x,xs,⟨q,h⟩,ihb p g,e⟩
 |_=>intro l p;cases p
theorem V.jX:∀l:List V,(V.ofList l).isRow=true
 | []=>rfl
 |_::_=>rfl
theorem aX.to{M:Mp}:∀{vs:List V} {l:List Value},aX M vs l→Rep M (V.ofList vs) l
 | [],_,h=>h
 |_::vs,_,⟨x,xs,h,g,e⟩=>⟨x,xs,h.1,h.2,V.jX vs,aX.to g,e⟩
theorem aX.drop{M:Mp}(n:Nat):∀{vs:List V} {l:List Value},aX M vs l→aX M (vs.drop n) (l.drop n):=by
 induction n with
 |zero=>intro vs l h;exact h
 |succ n ih=>
  intro vs l h
  cases vs with
  |nil=>rw [show l= [] from h];rfl
  |cons v vs=>obtain⟨x,xs,_,g,e⟩:=h;rw [e];exact ih g
theorem aX.take{M:Mp}(n:Nat):∀{vs:List V} {l:List Value},aX M vs l→aX M (vs.take n) (l.take n):=by
 induction n with
 |zero=>intro vs l h;simp;rfl
 |succ n ih=>
  intro vs l h
  cases vs with
  |nil=>rw [show l= [] from h];rfl
  |cons v vs=>obtain⟨x,xs,hx,g,e⟩:=h;rw [e];exact⟨x,_,hx,ih g,rfl⟩
theorem Rp.cells{M:Mp}{v:V}{c:Value}(h:Rp M v c):aX M v.cells c.cells.toList:=by
 obtain⟨hr,h⟩:=h
 have one:∀{v:V} {c:Value},v.isRow=false→Rep M v [c]→c.cells= #[c]→aX M [v] c.cells.toList:=
  fun hr h e=>⟨_,[],⟨hr,h⟩,rfl,by rw [e]⟩
 cases v with
 |agg l=>
  obtain⟨x,p,g,_,e⟩:=h
  cases e
  simpa [V.cells,Value.cells] using aX.of p g
 |nil=>cases hr
 |cons a b=>cases hr
 |bool b=>exact one hr h (by cases h;rfl)
 |int k n=>exact one hr h (by cases h;rfl)
 |str s=>exact one hr h (by cases h.2;rfl)
 |ptr i o=>exact one hr h (by obtain⟨_,_,e⟩:=h;cases e;rfl)
 |fJ=>exact one hr h (by cases h;rfl)
 |slice i o n k=>exact one hr h (by obtain⟨_,_,_,_,e⟩:=h;cases e;rfl)
 |af=>exact one hr h (by cases h;rfl)
 |emp=>exact one hr h (by obtain⟨_,_,e⟩:=h;cases e;rfl)
 |map i=>exact one hr h (by obtain⟨_,_,e⟩:=h;cases e;rfl)
 |gG=>exact one hr h (by cases h;rfl)
 |func f a b=>exact one hr h (by obtain⟨_,_,_,_,_,_,_,e⟩:=h;cases e;rfl)
 |iR=>exact one hr h (by cases h;rfl)
 |iface t v=>exact one hr h (by obtain⟨_,_,_,e⟩:=h;cases e;rfl)
 |iw=>exact one hr h (by cases h;rfl)
 |tuple l=>exact one hr h (by obtain⟨_,_,_,e⟩:=h;cases e;rfl)
end Go.Vm
namespace Go.Vm
noncomputable section
def kix:IntKind→Nat
 | .i8=>0| .i16=>1| .i32=>2| .i64=>3| .u8=>4| .u16=>5| .u32=>6| .u64=>7
def iK:Int→Int→Bool
 | .ofNat a,.ofNat b=>Nat.beq a b
 | .negSucc a,.negSucc b=>Nat.beq a b
 |_,_=>false
def gQ:List Nat→List Nat→Bool
 | [],[]=>true
 |a::x,b::y=>(match Nat.beq a b with|true=>gQ x y|false=>false)
 |_,_=>false
def dZ(x y:V):Option Bool:=match x with
 | .int k a=>(match y with| .int k' b=>(match Nat.beq (kix k) (kix k') with|true=>some (iK a b)|false=>none)|_=>none)
 | .str s=>(match y with| .str t=>some (gQ s t)|_=>none)
 | .bool a=>(match y with| .bool b=>some (match a,b with|true,true=>true|false,false=>true|_,_=>false)|_=>none)
 |_=>none
def dN(es:List (V×V)):Prop:=(es.map (·.1)).Pairwise fun a b=>dZ a b=some false
def eu(M:Mp):List (V×V)→List MapEntry→Prop
 | [],l=>l= []
 |p::ps,l=>∃e es,(Rp M p.1 e.key∧Rp M p.2 e.val)∧eu M ps es∧l=e::es
theorem eu.mono{M N:Mp}(hle:M.le N):∀{ps:List (V×V)} {l:List MapEntry},eu M ps l→eu N ps l
 | [],_,h=>h
 |_::_,_,⟨e,es,h,g,x⟩=>⟨e,es,⟨h.1.mono hle,h.2.mono hle⟩,eu.mono hle g,x⟩
theorem eu.length{M:Mp}:∀{ps:List (V×V)} {l:List MapEntry},eu M ps l→l.length=ps.length
 | [],_,h=>by rw [show _= [] from h];rfl
 |_::_,_,⟨e,es,_,g,x⟩=>by rw [x];simp [eu.length g]
def jQ(M:Mp)(es:List (V×V))(en:Array MapEntry)(ck:Nat):Prop:=
 (∃l,List.Perm l en.toList∧eu M es l)∧dN es∧(∀e∈en.toList,e.born<ck)∧(en.toList.map (·.born)).Nodup
theorem jQ.nil(M:Mp):jQ M [] #[] 0:=⟨⟨[],by simp,rfl⟩,List.Pairwise.nil,by simp,by simp⟩
theorem jQ.mono{M N:Mp}(hle:M.le N){es:List (V×V)}{en:Array MapEntry}{ck:Nat}(h:jQ M es en ck):jQ N es en ck:=
 let ⟨⟨l,a,b⟩,c,d,e⟩:=h
 ⟨⟨l,a,b.mono hle⟩,c,d,e⟩
def aUf(L:Loc)(el:TypeId)(fr:Nat×Nat)(n:Nat):Wr→Prop
 | .ro=>True
 | .rw t full=>el=t∧(∀k,L.off≤k→k≤L.size→¬(fr.1≤k∧k<fr.2))∧(full=true→L.off=0∧L.size=n)
def dV(M:Mp)(L:Loc)(w:World):Ob→Prop
 | .cells wr cs=>∃c el fr,w.heap[L.blk]?=some (.cells c el fr)∧c.size=L.size∧
   (∀(k:Nat) (v:V),cs[k]?=some v→∃x,c[L.off+k]?=some x∧Rp M v x∧scalar x=true)∧
   aUf L el fr cs.length wr
 | .bytes cs=>∃c el fr,w.heap[L.blk]?=some (.cells c el fr)∧c.size=L.size∧
   (∀(k:Nat) (v:V),cs[k]?=some v→∃x,c[L.off+k]?=some x∧Rp M v x∧scalar x=true)∧
   (∀k,L.off≤k→k<L.size→¬(fr.1≤k∧k<fr.2))
 | .map es=>∃en ck,w.heap[L.blk]?=some (.map en ck)∧jQ M es en ck
 | .iter s pos=>(∀b∈s,b<256)∧w.heap[L.blk]?=some (.stringIter (bts s) pos)
theorem dV.mono{M N:Mp}(hle:M.le N){L:Loc}{w:World}{o:Ob}(h:dV M L w o):dV N L w o:=by
 cases o with
 |cells wr cs=>
  obtain⟨c,el,fr,a,b,g,f⟩:=h
  exact⟨c,el,fr,a,b,fun k v hk=>let ⟨x,p,q,r⟩:=g k v hk;⟨x,p,q.mono hle,r⟩,f⟩
 |map es=>
  obtain⟨en,ck,a,b⟩:=h
  exact⟨en,ck,a,b.mono hle⟩
 |iter s pos=>exact h
 |bytes cs=>
  obtain⟨c,el,fr,a,b,g,f⟩:=h
  exact⟨c,el,fr,a,b,fun k v hk=>let ⟨x,p,q,r⟩:=g k v hk;⟨x,p,q.mono hle,r⟩,f⟩
theorem dV.of_block{M:Mp}{L:Loc}{w w':World}{o:Ob}(h:dV M L w o)(hb:w'.heap[L.blk]?=w.heap[L.blk]?):dV M L w' o:=by
 cases o<;>simpa only [dV,hb] using h
theorem dV.lt{M:Mp}{L:Loc}{w:World}{o:Ob}(h:dV M L w o):L.blk<w.heap.size:=by
 cases o with
 |cells wr cs=>obtain⟨c,el,fr,a,_⟩:=h;exact(Array.getElem?_eq_some_iff.1 a).1
 |map es=>obtain⟨en,ck,a,_⟩:=h;exact(Array.getElem?_eq_some_iff.1 a).1
 |iter s pos=>exact(Array.getElem?_eq_some_iff.1 h.2).1
 |bytes cs=>obtain⟨c,el,fr,a,_⟩:=h;exact(Array.getElem?_eq_some_iff.1 a).1
structure Rel (G:Nat) (M:Mp) (h:Hp) (w:World):Prop where
 ob:∀i o,h.get i=some o→∃L,M i=some L∧dV M L w o
 fresh:∀i,h.next.nat≤i.nat→M i=none
 sep:∀i j o p L K,i≠j→h.get i=some o→h.get j=some p→o.own=true→M i=some L→M j=some K→L.blk≠K.blk
 gl:∀g,g<G→∃n,M (Pos.of g)=some ⟨g,0,n⟩
structure Ext (M:Mp) (h:Hp) (w:World) (M':Mp) (h':Hp) (w':World):Prop where
 le:M.le M'
 next:h.next.nat≤h'.next.nat
 os:w'.os=w.os
 tape:w'.tape=w.tape
 output:w'.output=w.output
 size:w.heap.size≤w'.heap.size
 same:∀b,b<w.heap.size→(∀i o L,h.get i=some o→o.own=true→M i=some L→L.blk≠b)→w'.heap[b]?=w.heap[b]?
 own:∀i o L,h'.get i=some o→o.own=true→M' i=some L→w.heap.size≤L.blk∨∃j p K,h.get j=some p∧p.own=true∧M j=some K∧K.blk=L.blk
 old:∀i,i.nat<h.next.nat→h.get i=none→h'.get i=none
 all:∀i o L,h'.get i=some o→M' i=some L→w.heap.size≤L.blk∨∃j p K,h.get j=some p∧M j=some K∧K.blk=L.blk
 none:∀i,i.nat<h.next.nat→M i=none→M' i=none
theorem Ext.refl{G:Nat}{M:Mp}{h:Hp}{w:World}(_:Rel G M h w):Ext M h w M h w:=
 ⟨M.le_refl,Nat.le_refl _,rfl,rfl,rfl,Nat.le_refl _,fun _ _ _=>rfl,fun i o L a b c=>.inr ⟨i,o,L,a,b,c,rfl⟩,fun _ _ h=>h,fun i o L a b=>.inr ⟨i,o,L,a,b,rfl⟩,fun _ _ h=>h⟩
theorem Ext.trans{M N O:Mp}{h g f:Hp}{w x y:World}(a:Ext M h w N g x)(b:Ext N g x O f y):Ext M h w O f y where
 le:=Mp.le_trans a.le b.le
 next:=Nat.le_trans a.next b.next
 os:=b.os.trans a.os
 tape:=b.tape.trans a.tape
 output:=b.output.trans a.output
 size:=Nat.le_trans a.size b.size
 same k hk hno:=by
  rw [b.same k (Nat.lt_of_lt_of_le hk a.size) (fun i o L hi ho hL e=>?_),a.same k hk hno]
  rcases a.own i o L hi ho hL with hs|⟨j,p,K,hj,hp,hK,e'⟩
  ·omega
  ·exact hno j p K hj hp hK (e'.trans e)
 own i o L hi ho hL:=by
  rcases b.own i o L hi ho hL with hs|⟨j,p,K,hj,hp,hK,e⟩
  ·exact .inl (Nat.le_trans a.size hs)
  ·rcases a.own j p K hj hp hK with hs|⟨j',p',K',hj',hp',hK',e'⟩
   ·exact .inl (by omega)
   ·exact .inr ⟨j',p',K',hj',hp',hK',e'.trans e⟩
 old i hi hn:=b.old i (Nat.lt_of_lt_of_le hi a.next) (a.old i hi hn)
 all i o L hi hL:=by
  rcases b.all i o L hi hL with hs|⟨j,p,K,hj,hK,e⟩
  ·exact .inl (Nat.le_trans a.size hs)
  ·rcases a.all j p K hj hK with hs|⟨j',p',K',hj',hK',e'⟩
   ·exact .inl (by omega)
   ·exact .inr ⟨j',p',K',hj',hK',e'.trans e⟩
 none i hi hn:=b.none i (Nat.lt_of_lt_of_le hi a.next) (a.none i hi hn)
theorem Rel.heap{G:Nat}{M:Mp}{h:Hp}{w w':World}(r:Rel G M h w)(e:w'.heap=w.heap):Rel G M h w':=
 ⟨fun i o hi=>let ⟨L,a,b⟩:=r.ob i o hi;⟨L,a,b.of_block (by rw [e])⟩,r.fresh,r.sep,r.gl⟩
theorem Hp.bC(h:Hp)(i:Pos)(o:Option Ob):(h.put i o).get i=o:=T.gU _ _ _
theorem Hp.aY(h:Hp){i j:Pos}(hn:j≠i)(o:Option Ob):(h.put i o).get j=h.get j:=T.iO _ hn _
theorem Hp.lS(h:Hp)(o:Ob):(h.new o).get h.next=some o:=T.gU _ _ _
theorem Hp.gV(h:Hp){j:Pos}(hn:j≠h.next)(o:Ob):(h.new o).get j=h.get j:=T.iO _ hn _
theorem Rel.lt_next{G:Nat}{M:Mp}{h:Hp}{w:World}(r:Rel G M h w){i:Pos}{L:Loc}(hi:M i=some L):i.nat<h.next.nat:=by
 rcases Nat.lt_or_ge i.nat h.next.nat with hl|hl
 ·exact hl
 ·rw [r.fresh i hl] at hi;cases hi
theorem Rel.ne_next{G:Nat}{M:Mp}{h:Hp}{w:World}(r:Rel G M h w){i:Pos}{L:Loc}(hi:M i=some L):i≠h.next:=by
 intro e;have:=r.lt_next hi;rw [e] at this;omega
def Mp.add(M:Mp)(i:Pos)(L:Loc):Mp:=fun j=>if j=i then some L else M j
theorem Mp.bZ(M:Mp)(i:Pos)(L:Loc):M.add i L i=some L:=if_pos rfl
theorem Mp.dM(M:Mp){i j:Pos}(hn:j≠i)(L:Loc):M.add i L j=M j:=if_neg hn
theorem Mp.qQ{M:Mp}{i:Pos}(h:M i=none)(L:Loc):M.le (M.add i L):=by
 intro j K hj
 by_cases e:j=i
 ·subst e;rw [h] at hj;cases hj
 ·rw [M.dM e];exact hj
theorem Rel.new{G:Nat}{M:Mp}{h:Hp}{w:World}(r:Rel G M h w)(o:Ob)(b:Obj)(n:Nat){w':World}
  (hw:w'.heap=w.heap.push b) (hos:w'.os=w.os) (ht:w'.tape=w.tape) (hout:w'.output=w.output)
  (ho:∀N:Mp,M.le N→dV N ⟨w.heap.size,0,n⟩ w' o):
  Rel G (M.add h.next ⟨w.heap.size,0,n⟩) (h.new o) w'∧Ext M h w (M.add h.next ⟨w.heap.size,0,n⟩) (h.new o) w'∧M.le (M.add h.next ⟨w.heap.size,0,n⟩):=by
 have hnone:M h.next=none:=r.fresh _ (Nat.le_refl _)
 have hle:=Mp.qQ hnone ⟨w.heap.size,0,n⟩
 have hold:∀k,k<w.heap.size→w'.heap[k]?=w.heap[k]?:=fun k hk=>by rw [hw,Array.getElem?_push,if_neg (by omega)]
 refine⟨⟨fun i p hi=>?_,fun i hi=>?_,fun i j p q L K hn hi hj hp hL hK=>?_,fun g hg=>?_⟩,⟨hle,?_,hos,ht,hout,by rw [hw];simp,fun k hk _=>hold k hk,fun i p L hi hp hL=>?_,fun i hi hn=>?_,fun i p L hi hL=>?_,fun i hi hn=>?_⟩,hle⟩
 ·by_cases e:i=h.next
  ·subst e
   rw [h.lS] at hi
   cases hi
   exact⟨_,M.bZ _ _,ho _ hle⟩
  ·rw [h.gV e] at hi
   obtain⟨L,hL,hr⟩:=r.ob i p hi
   exact⟨L,by rw [M.dM e];exact hL,(hr.of_block (hold _ hr.lt)).mono hle⟩
 ·have hs:(h.new o).next.nat=h.next.nat+1:=Pos.dS _
  rw [hs] at hi
  have e:i≠h.next:=fun e=>by rw [e] at hi;omega
  rw [M.dM e]
  exact r.fresh i (by omega)
 ·by_cases ei:i=h.next
  ·subst ei
   rw [M.bZ] at hL
   cases hL
   have ej:j≠h.next:=fun e=>hn e.symm
   rw [M.dM ej] at hK
   rw [h.gV ej] at hj
   obtain⟨K',hK',hr⟩:=r.ob j q hj
   rw [hK] at hK';cases hK'
   have:=hr.lt
   show w.heap.size≠K.blk
   omega
  ·rw [M.dM ei] at hL
   rw [h.gV ei] at hi
   obtain⟨L',hL',hr⟩:=r.ob i p hi
   rw [hL] at hL';cases hL'
   by_cases ej:j=h.next
   ·subst ej
    rw [M.bZ] at hK
    cases hK
    have:=hr.lt
    show L.blk≠w.heap.size
    omega
   ·rw [M.dM ej] at hK
    rw [h.gV ej] at hj
    exact r.sep i j p q L K hn hi hj hp hL hK
 ·obtain⟨n',hg'⟩:=r.gl g hg
  exact⟨n',hle _ _ hg'⟩
 ·show h.next.nat≤h.next.succ.nat
  rw [Pos.dS];omega
 ·by_cases e:i=h.next
  ·subst e
   rw [M.bZ] at hL
   cases hL
   exact .inl (Nat.le_refl _)
  ·rw [h.gV e] at hi
   rw [M.dM e] at hL
   exact .inr ⟨i,p,L,hi,hp,hL,rfl⟩
 ·have e:i≠h.next:=fun e=>by rw [e] at hi;omega
  rw [h.gV e];exact hn
 ·by_cases e:i=h.next
  ·subst e
   rw [M.bZ] at hL
   cases hL
   exact .inl (Nat.le_refl _)
  ·rw [h.gV e] at hi
   rw [M.dM e] at hL
   exact .inr ⟨i,p,L,hi,hL,rfl⟩
 ·have e:i≠h.next:=fun e=>by rw [e] at hi;omega
  rw [M.dM e];exact hn
theorem Rel.turn{G:Nat}{M:Mp}{h:Hp}{w:World}(r:Rel G M h w){i:Pos}{o o':Ob}{L:Loc}(hi:h.get i=some o)(hL:M i=some L)
  (hown:o.own=true) {w':World} (hs:w'.heap.size=w.heap.size) (hoth:∀k,k≠L.blk→w'.heap[k]?=w.heap[k]?)
  (hos:w'.os=w.os) (ht:w'.tape=w.tape) (hout:w'.output=w.output) (ho:dV M L w' o'):
  Rel G M (h.put i (some o')) w'∧Ext M h w M (h.put i (some o')) w':=by
 refine⟨⟨fun j p hj=>?_,r.fresh,fun a b p q A B hn ha hb hp hA hB=>?_,r.gl⟩,⟨M.le_refl,Nat.le_refl _,hos,ht,hout,by omega,fun k hk hno=>hoth k (fun e=>hno i o L hi hown hL e.symm),fun j p K hj hp hK=>?_,fun j hj hn=>?_,fun j p K hj hK=>?_,fun _ _ hn=>hn⟩⟩
 ·by_cases e:j=i
  ·subst e
   rw [h.bC] at hj
   cases hj
   exact⟨L,hL,ho⟩
  ·rw [h.aY e] at hj
   obtain⟨K,hK,hr⟩:=r.ob j p hj
   exact⟨K,hK,hr.of_block (hoth _ (fun e'=>r.sep i j o p L K (Ne.symm e) hi hj hown hL hK e'.symm))⟩
 ·by_cases ea:a=i
  ·subst ea
   rw [h.aY (Ne.symm hn)] at hb
   rw [hL] at hA;cases hA
   exact r.sep a b o q L B hn hi hb hown hL hB
  ·rw [h.aY ea] at ha
   by_cases eb:b=i
   ·subst eb
    rw [hL] at hB;cases hB
    exact fun e=>r.sep b a o p L A (Ne.symm hn) hi ha hown hL hA e.symm
   ·rw [h.aY eb] at hb
    exact r.sep a b p q A B hn ha hb hp hA hB
 ·by_cases e:j=i
  ·subst e
   rw [hL] at hK;cases hK
   exact .inr ⟨j,o,L,hi,hown,hL,rfl⟩
  ·rw [h.aY e] at hj
   exact .inr ⟨j,p,K,hj,hp,hK,rfl⟩
 ·by_cases e:j=i
  ·subst e;rw [hi] at hn;cases hn
  ·rw [h.aY e];exact hn
 ·by_cases e:j=i
  ·subst e
   rw [hL] at hK;cases hK
   exact .inr ⟨j,o,L,hi,hL,rfl⟩
  ·rw [h.aY e] at hj
   exact .inr ⟨j,p,K,hj,hK,rfl⟩
theorem Rel.drop{G:Nat}{M:Mp}{h:Hp}{w:World}(r:Rel G M h w)(i:Pos):Rel G M (h.put i none) w∧Ext M h w M (h.put i none) w:=by
 have key:∀{j:Pos} {p:Ob},(h.put i none).get j=some p→h.get j=some p:=fun{j p} hj=>by
  by_cases e:j=i
  ·subst e;rw [h.bC] at hj;cases hj
  ·rwa [h.aY e] at hj
 refine⟨⟨fun j p hj=>r.ob j p (key hj),r.fresh,fun a b p q A B hn ha hb=>r.sep a b p q A B hn (key ha) (key hb),r.gl⟩,⟨M.le_refl,Nat.le_refl _,rfl,rfl,rfl,Nat.le_refl _,fun _ _ _=>rfl,fun j p K hj hp hK=>.inr ⟨j,p,K,key hj,hp,hK,rfl⟩,fun j hj hn=>?_,fun j p K hj hK=>.inr ⟨j,p,K,key hj,hK,rfl⟩,fun _ _ hn=>hn⟩⟩
 by_cases e:j=i
 ·subst e;exact h.bC _ _
 ·rw [h.aY e];exact hn
theorem Rel.cell{G:Nat}{M:Mp}{h:Hp}{w:World}(r:Rel G M h w){i:Pos}{wr:Wr}{cs:List V}{L:Loc}{k:Nat}{v:V}
  (hi:(h.get i).bind Ob.row=some (wr,cs)) (hL:M i=some L) (hk:cs[k]?=some v):
  ∃x,w.cell? (L.at k)=some x∧Rp M v x∧scalar x=true:=by
 cases hg:h.get i with
 |none=>rw [hg] at hi;cases hi
 |some o=>
  rw [hg] at hi
  obtain⟨L',hL',ho⟩:=r.ob i _ hg
  rw [hL] at hL';cases hL'
  cases o with
  |cells w0 cs0=>
   cases hi
   obtain⟨c,el,fr,hb,hsz,hc,_⟩:=ho
   obtain⟨x,hx,hr,hs⟩:=hc k v hk
   exact⟨x,by simp [World.cell?,Loc.at,hb,hx],hr,hs⟩
  |bytes cs0=>
   cases hi
   obtain⟨c,el,fr,hb,hsz,hc,_⟩:=ho
   obtain⟨x,hx,hr,hs⟩:=hc k v hk
   exact⟨x,by simp [World.cell?,Loc.at,hb,hx],hr,hs⟩
  |map es=>cases hi
  |iter s p=>cases hi
theorem gZ{h:Hp}{i:Pos}{t:TypeId}{f:Bool}{cs:List V}(hi:(h.get i).bind Ob.row=some (.rw t f,cs)):h.get i=some (.cells (.rw t f) cs):=by
 cases hg:h.get i with
 |none=>rw [hg] at hi;cases hi
 |some o=>
  rw [hg] at hi
  cases o<;>first|(cases hi;done)|(cases hi;rfl)
end
end Go.Vm
namespace Go.Vm
noncomputable section
def qm(n:Nat)(l:List V):Option V:=
 Nat.rec (motive:=fun _=>List V→Option V) (fun l=>List.casesOn l none (fun a _=>some a)) (fun _ ih l=>List.casesOn l none (fun _ t=>ih t)) n l
def eY(n:Nat)(l:List V):List V:=
 Nat.rec (motive:=fun _=>List V→List V) (fun l=>l) (fun _ ih l=>List.casesOn l [] (fun _ t=>ih t)) n l
def fP(n:Nat)(l:List V):Option (List V):=
 Nat.rec (motive:=fun _=>List V→Option (List V)) (fun _=>some []) (fun _ ih l=>List.casesOn l none (fun a t=>Option.casesOn (ih t) none (fun r=>some (a::r)))) n l
def Ht(vs:List V)(l:List V):Option (List V):=
 List.rec (motive:=fun _=>List V→Option (List V)) (fun l=>some l) (fun v _ ih l=>List.casesOn l none (fun _ t=>Option.casesOn (ih t) none (fun r=>some (v::r)))) vs l
def iV(n:Nat)(vs:List V)(l:List V):Option (List V):=
 Nat.rec (motive:=fun _=>List V→Option (List V)) (fun l=>Ht vs l) (fun _ ih l=>List.casesOn l none (fun a t=>Option.casesOn (ih t) none (fun r=>some (a::r)))) n l
theorem jB(n:Nat):∀l:List V,qm n l=l[n]?:=by
 induction n with
 |zero=>intro l;cases l<;>rfl
 |succ n ih=>intro l;cases l with
  |nil=>rfl
  |cons a t=>exact(ih t).trans (by simp)
theorem iT(n:Nat):∀l:List V,eY n l=l.drop n:=by
 induction n with
 |zero=>intro l;rfl
 |succ n ih=>intro l;cases l with
  |nil=>rfl
  |cons a t=>exact(ih t).trans (by simp)
theorem rU(n:Nat):∀{l r:List V},fP n l=some r→n≤l.length∧r=l.take n:=by
 induction n with
 |zero=>intro l r h;cases h;simp
 |succ n ih=>intro l r h;cases l with
  |nil=>cases h
  |cons a t=>
   change Option.casesOn (fP n t) none (fun r=>some (a::r))=some r at h
   cases ht:fP n t with
   |none=>rw [ht] at h;cases h
   |some s=>rw [ht] at h;cases h;obtain⟨h1,h2⟩:=ih ht;exact⟨by simp;omega,by rw [h2];rfl⟩
theorem zD{n:Nat}:∀{l:List V},n≤l.length→fP n l=some (l.take n):=by
 induction n with
 |zero=>intro l _;rfl
 |succ n ih=>intro l h;cases l with
  |nil=>simp at h
  |cons a t=>
   change @Option.casesOn (List V) (fun _=>Option (List V)) (fP n t) none (fun r=>some (a::r))=_
   rw [ih (by simpa using h)];rfl
theorem amL(vs:List V):∀{l r:List V},Ht vs l=some r→vs.length≤l.length∧r=vs++l.drop vs.length:=by
 induction vs with
 |nil=>intro l r h;cases h;simp
 |cons v vs ih=>intro l r h;cases l with
  |nil=>cases h
  |cons a t=>
   change Option.casesOn (Ht vs t) none (fun r=>some (v::r))=some r at h
   cases ht:Ht vs t with
   |none=>rw [ht] at h;cases h
   |some s=>rw [ht] at h;cases h;obtain⟨h1,h2⟩:=ih ht;exact⟨by simp;omega,by rw [h2];rfl⟩
theorem kY(n:Nat)(vs:List V):∀{l r:List V},iV n vs l=some r→n+vs.length≤l.length∧r=l.take n++vs++l.drop (n+vs.length):=by
 induction n with
 |zero=>intro l r h;obtain⟨a,b⟩:=amL vs h;exact⟨by omega,by rw [b];simp⟩
 |succ n ih=>intro l r h;cases l with
  |nil=>cases h
  |cons a t=>
   change Option.casesOn (iV n vs t) none (fun r=>some (a::r))=some r at h
   cases ht:iV n vs t with
   |none=>rw [ht] at h;cases h
   |some s=>
    rw [ht] at h;cases h
    obtain⟨h1,h2⟩:=ih ht
    exact⟨by simp;omega,by rw [h2,show n+1+vs.length=(n+vs.length)+1 from by omega];rfl⟩
theorem yC{n:Nat}{vs l r:List V}(h:iV n vs l=some r)(k:Nat):r[k]?=if k<n then l[k]? else if k<n+vs.length then vs[k - n]? else l[k]?:=by
 obtain⟨h1,h2⟩:=kY n vs h
 have ht:(l.take n).length=n:=by simp;omega
 rw [h2,List.append_assoc,List.getElem?_append]
 split
 ·rename_i hk
  rw [ht] at hk
  rw [if_pos hk,List.getElem?_take,if_pos hk]
 ·rename_i hk
  rw [ht] at hk⊢
  rw [if_neg hk,List.getElem?_append]
  split
  ·rename_i hk2
   rw [if_pos (by omega)]
  ·rename_i hk2
   rw [if_neg (by omega),List.getElem?_drop]
   congr 1
   omega
theorem Rel.cells{G:Nat}{M:Mp}{h:Hp}{w:World}(r:Rel G M h w){i:Pos}{wr:Wr}{cs:List V}{L:Loc}{n o:Nat}{vs:List V}
  (hi:(h.get i).bind Ob.row=some (wr,cs)) (hL:M i=some L) (ht:fP n (eY o cs)=some vs):
  ∃xs:List Value,aX M vs xs∧xs.length=n∧(∀x∈xs,scalar x=true)∧∀(j:Nat) (x:Value),xs[j]?=some x→w.cell? ((L.at o).add j)=some x:=by
 obtain⟨hn,hv⟩:=rU n ht
 rw [iT] at hn hv
 have hlen:vs.length=n:=by rw [hv];simp at hn⊢;omega
 have hget:∀j v,vs[j]?=some v→cs[o+j]?=some v:=fun j v hj=>by
  rw [hv,List.getElem?_take] at hj
  split at hj
  ·rwa [List.getElem?_drop] at hj
  ·cases hj
 have hc:∀j:Nat,∃x:Value,j<n→∃v,vs[j]?=some v∧w.cell? (L.at (o+j))=some x∧Rp M v x∧scalar x=true:=fun j=>by
  by_cases hj:j<n
  ·have hv':vs[j]?=some vs[j]:=List.getElem?_eq_getElem (by omega)
   obtain⟨x,a,b,c⟩:=r.cell hi hL (hget j _ hv')
   exact⟨x,fun _=>⟨_,hv',a,b,c⟩⟩
  ·exact⟨undef,fun h=>absurd h hj⟩
 let f:Nat→Value:=fun j=>(hc j).choose
 have hf:∀j,j<n→∃v,vs[j]?=some v∧w.cell? (L.at (o+j))=some (f j)∧Rp M v (f j)∧scalar (f j)=true:=fun j hj=>(hc j).choose_spec hj
 refine⟨(List.range n).map f,aX.mk (by simp [hlen]) (fun k v hk=>?_),by simp,fun x hx=>?_,fun j x hj=>?_⟩
 ·have hkn:k<n:=by
   rw [←hlen];exact(List.getElem?_eq_some_iff.1 hk).1
  obtain⟨v',a,b,c,d⟩:=hf k hkn
  rw [hk] at a;cases a
  exact⟨f k,by simp [hkn],c⟩
 ·obtain⟨j,hj,rfl⟩:=List.mem_map.1 hx
  obtain⟨v',a,b,c,d⟩:=hf j (List.mem_range.1 hj)
  exact d
 ·have hjn:j<n:=by
   have:=(List.getElem?_eq_some_iff.1 hj).1;simpa using this
  obtain⟨v',a,b,c,d⟩:=hf j hjn
  simp [hjn] at hj
  subst hj
  rw [←b]
  congr 1
  unfold Loc.at Addr.add
  simp only
  split<;>simp_all [Nat.add_assoc]
theorem nT{x:Value}(h:scalar x=true):x.oneCell'=true:=by
 cases x<;>simp_all [scalar,Value.oneCell']
theorem amG{n:Nat}{vs l r:List V}(h:iV n vs l=some r):r.length=l.length:=by
 obtain⟨h1,rfl⟩:=kY n vs h
 simp
 omega
theorem Rel.store{P:Program}{G:Nat}{M:Mp}{h:Hp}{w:World}(r:Rel G M h w){i:Pos}{cs cs':List V}{L:Loc}{o:Nat}{vs:List V}{xs:List Value}
  {t:TypeId} {full:Bool} (hi:h.get i=some (.cells (.rw t full) cs)) (hL:M i=some L) (hp:iV o vs cs=some cs') (hx:aX M vs xs) (h1:∀x∈xs,scalar x=true):
  ∃w',(storeCells (L.at o) xs).run P w=.ok () w'∧Rel G M (h.put i (some (.cells (.rw t full) cs'))) w'∧Ext M h w M (h.put i (some (.cells (.rw t full) cs'))) w':=by
 obtain⟨hfit,_⟩:=kY o vs hp
 obtain⟨L',hL',c,el,fr,hb,hsz,hc,hfr⟩:=r.ob i _ hi
 rw [hL] at hL';cases hL'
 have hxl:=hx.length
 have hin:∀j,j<xs.length→L.off+o+j<c.size:=fun j hj=>by
  have hk:(cs[o+j]?)=some cs[o+j]:=List.getElem?_eq_getElem (by omega)
  obtain⟨x,hx',_⟩:=hc (o+j) _ hk
  have:=(Array.getElem?_eq_some_iff.1 hx').1
  omega
 have hrun:=run_storeCells_cells (P:=P) L.blk (L.off+o) xs 0 w
  (fun j hj=>by
   have:=hin j hj
   simp [World.cell?,hb,this])
  (fun j hj=>by
   have h1:=hin j hj
   have:=hfr.2.1 (L.off+o+j) (by omega) (by omega)
   simp [World.frozen?,hb];omega)
  (fun v hv=>nT (h1 v hv))
 simp only [Nat.add_zero] at hrun
 refine⟨_,hrun,?_⟩
 have hblk:∃c',(w.setCells L.blk (L.off+o) xs).heap[L.blk]?=some (.cells c' el fr)∧c'.size=c.size∧(∀k,c'[k]?=if L.off+o≤k∧k<L.off+o+xs.length then xs[k - (L.off+o)]? else c[k]?):=by
  have key:∀(xs:List Value) (a:Nat) (c:Array Value) (w:World),w.heap[L.blk]?=some (.cells c el fr)→(∀j,j<xs.length→a+j<c.size)→
    ∃c',(w.setCells L.blk a xs).heap[L.blk]?=some (.cells c' el fr)∧c'.size=c.size∧(∀k,c'[k]?=if a≤k∧k<a+xs.length then xs[k - a]? else c[k]?):=by
   intro xs
   induction xs with
   |nil=>intro a c w hw _;exact⟨c,hw,rfl,fun k=>by rw [if_neg (by simp<;>omega)]⟩
   |cons x xs ih=>
    intro a c w hw hlt
    have hw':(w.setCell ⟨L.blk,a,none⟩ x).heap[L.blk]?=some (.cells (c.setIfInBounds a x) el fr):=by
     simp [World.setCell,Array.getElem?_modify,hw]
    obtain⟨c',h1,h2,h3⟩:=ih (a+1) (c.setIfInBounds a x) _ hw' (fun j hj=>by have:=hlt (j+1) (by simp;omega);simp;omega)
    refine⟨c',h1,by simpa using h2,fun k=>?_⟩
    rw [h3 k]
    have ha:=hlt 0 (by simp)
    by_cases e:k=a
    ·subst e
     rw [if_neg (by omega),if_pos (by simp)]
     rw [Nat.sub_self,Array.getElem?_setIfInBounds_self_of_lt (by simpa using ha)]
     rfl
    ·by_cases hk:a+1≤k∧k<a+1+xs.length
     ·rw [if_pos hk,if_pos (by simp;omega),show k - a=(k - (a+1))+1 from by omega]
      simp
     ·rw [if_neg hk,if_neg (by simp at hk⊢;omega),Array.getElem?_setIfInBounds_ne (by omega)]
  exact key xs (L.off+o) c w hb (fun j hj=>hin j hj)
 obtain⟨c',hb',hsz',hget⟩:=hblk
 have hoth:∀k,k≠L.blk→(w.setCells L.blk (L.off+o) xs).heap[k]?=w.heap[k]?:=by
  have key:∀(xs:List Value) (a:Nat) (w:World) (k:Nat),k≠L.blk→(w.setCells L.blk a xs).heap[k]?=w.heap[k]?:=by
   intro xs
   induction xs with
   |nil=>intros;rfl
   |cons x xs ih=>intro a w k hk;rw [World.setCells,ih _ _ _ hk];exact Go.RowKit.Below.heap_setCell _ _ _ _ hk
  exact fun k hk=>key xs _ w k hk
 have hrest:∀(xs:List Value) (a:Nat) (w:World),(w.setCells L.blk a xs).heap.size=w.heap.size∧(w.setCells L.blk a xs).os=w.os∧(w.setCells L.blk a xs).tape=w.tape∧(w.setCells L.blk a xs).output=w.output:=by
  intro xs
  induction xs with
  |nil=>intros;exact⟨rfl,rfl,rfl,rfl⟩
  |cons x xs ih=>intro a w;obtain⟨h1,h2,h3,h4⟩:=ih (a+1) (w.setCell ⟨L.blk,a,none⟩ x);exact⟨by rw [World.setCells,h1];simp [World.setCell],h2,h3,h4⟩
 obtain⟨g1,g2,g3,g4⟩:=hrest xs (L.off+o) w
 refine r.turn hi hL rfl g1 hoth g2 g3 g4 ⟨c',el,fr,hb',by omega,fun k v hk=>?_,hfr.1,hfr.2.1,fun hf=>⟨(hfr.2.2 hf).1,by rw [(hfr.2.2 hf).2,amG hp]⟩⟩
 rw [yC hp] at hk
 rw [hget]
 split at hk
 ·rename_i hlt
  rw [if_neg (by omega)]
  exact hc k v hk
 ·rename_i hge
  split at hk
  ·rename_i hlt
   rw [if_pos (by omega),show L.off+k - (L.off+o)=k - o from by omega]
   obtain⟨x,hx',hr⟩:=hx.get hk
   exact⟨x,hx',hr,h1 x (List.mem_of_getElem? hx')⟩
  ·rw [if_neg (by omega)]
   exact hc k v hk
theorem Rel.aEq{P:Program}{G:Nat}{M:Mp}{h:Hp}{w:World}(r:Rel G M h w){i:Pos}{cs cs':List V}{L:Loc}{o:Nat}{vs:List V}{xs:List Value}
  (hi:h.get i=some (.bytes cs)) (hL:M i=some L) (hp:iV o vs cs=some cs') (hx:aX M vs xs) (h1:∀x∈xs,scalar x=true):
  ∃w',(storeCells (L.at o) xs).run P w=.ok () w'∧Rel G M (h.put i (some (.bytes cs'))) w'∧Ext M h w M (h.put i (some (.bytes cs'))) w':=by
 obtain⟨hfit,_⟩:=kY o vs hp
 obtain⟨L',hL',c,el,fr,hb,hsz,hc,hfr⟩:=r.ob i _ hi
 rw [hL] at hL';cases hL'
 have hxl:=hx.length
 have hin:∀j,j<xs.length→L.off+o+j<c.size:=fun j hj=>by
  have hk:(cs[o+j]?)=some cs[o+j]:=List.getElem?_eq_getElem (by omega)
  obtain⟨x,hx',_⟩:=hc (o+j) _ hk
  have:=(Array.getElem?_eq_some_iff.1 hx').1
  omega
 have hrun:=run_storeCells_cells (P:=P) L.blk (L.off+o) xs 0 w
  (fun j hj=>by
   have:=hin j hj
   simp [World.cell?,hb,this])
  (fun j hj=>by
   have h1:=hin j hj
   have:=hfr (L.off+o+j) (by omega) (by omega)
   simp [World.frozen?,hb];omega)
  (fun v hv=>nT (h1 v hv))
 simp only [Nat.add_zero] at hrun
 refine⟨_,hrun,?_⟩
 have hblk:∃c',(w.setCells L.blk (L.off+o) xs).heap[L.blk]?=some (.cells c' el fr)∧c'.size=c.size∧(∀k,c'[k]?=if L.off+o≤k∧k<L.off+o+xs.length then xs[k - (L.off+o)]? else c[k]?):=by
  have key:∀(xs:List Value) (a:Nat) (c:Array Value) (w:World),w.heap[L.blk]?=some (.cells c el fr)→(∀j,j<xs.length→a+j<c.size)→
    ∃c',(w.setCells L.blk a xs).heap[L.blk]?=some (.cells c' el fr)∧c'.size=c.size∧(∀k,c'[k]?=if a≤k∧k<a+xs.length then xs[k - a]? else c[k]?):=by
   intro xs
   induction xs with
   |nil=>intro a c w hw _;exact⟨c,hw,rfl,fun k=>by rw [if_neg (by simp<;>omega)]⟩
   |cons x xs ih=>
    intro a c w hw hlt
    have hw':(w.setCell ⟨L.blk,a,none⟩ x).heap[L.blk]?=some (.cells (c.setIfInBounds a x) el fr):=by
     simp [World.setCell,Array.getElem?_modify,hw]
    obtain⟨c',h1,h2,h3⟩:=ih (a+1) (c.setIfInBounds a x) _ hw' (fun j hj=>by have:=hlt (j+1) (by simp;omega);simp;omega)
    refine⟨c',h1,by simpa using h2,fun k=>?_⟩
    rw [h3 k]
    have ha:=hlt 0 (by simp)
    by_cases e:k=a
    ·subst e
     rw [if_neg (by omega),if_pos (by simp)]
     rw [Nat.sub_self,Array.getElem?_setIfInBounds_self_of_lt (by simpa using ha)]
     rfl
    ·by_cases hk:a+1≤k∧k<a+1+xs.length
     ·rw [if_pos hk,if_pos (by simp;omega),show k - a=(k - (a+1))+1 from by omega]
      simp
     ·rw [if_neg hk,if_neg (by simp at hk⊢;omega),Array.getElem?_setIfInBounds_ne (by omega)]
  exact key xs (L.off+o) c w hb (fun j hj=>hin j hj)
 obtain⟨c',hb',hsz',hget⟩:=hblk
 have hoth:∀k,k≠L.blk→(w.setCells L.blk (L.off+o) xs).heap[k]?=w.heap[k]?:=by
  have key:∀(xs:List Value) (a:Nat) (w:World) (k:Nat),k≠L.blk→(w.setCells L.blk a xs).heap[k]?=w.heap[k]?:=by
   intro xs
   induction xs with
   |nil=>intros;rfl
   |cons x xs ih=>intro a w k hk;rw [World.setCells,ih _ _ _ hk];exact Go.RowKit.Below.heap_setCell _ _ _ _ hk
  exact fun k hk=>key xs _ w k hk
 have hrest:∀(xs:List Value) (a:Nat) (w:World),(w.setCells L.blk a xs).heap.size=w.heap.size∧(w.setCells L.blk a xs).os=w.os∧(w.setCells L.blk a xs).tape=w.tape∧(w.setCells L.blk a xs).output=w.output:=by
  intro xs
  induction xs with
  |nil=>intros;exact⟨rfl,rfl,rfl,rfl⟩
  |cons x xs ih=>intro a w;obtain⟨h1,h2,h3,h4⟩:=ih (a+1) (w.setCell ⟨L.blk,a,none⟩ x);exact⟨by rw [World.setCells,h1];simp [World.setCell],h2,h3,h4⟩
 obtain⟨g1,g2,g3,g4⟩:=hrest xs (L.off+o) w
 refine r.turn hi hL rfl g1 hoth g2 g3 g4 ⟨c',el,fr,hb',by omega,fun k v hk=>?_,hfr⟩
 rw [yC hp] at hk
 rw [hget]
 split at hk
 ·rename_i hlt
  rw [if_neg (by omega)]
  exact hc k v hk
 ·rename_i hge
  split at hk
  ·rename_i hlt
   rw [if_pos (by omega),show L.off+k - (L.off+o)=k - o from by omega]
   obtain⟨x,hx',hr⟩:=hx.get hk
   exact⟨x,hx',hr,h1 x (List.mem_of_getElem? hx')⟩
  ·rw [if_neg (by omega)]
   exact hc k v hk
end
end Go.Vm
namespace Go.Vm
noncomputable section
variable{α:Type}
section
variable{M:Mp}{c:Value}
theorem Rp.bool{b:Bool}(h:Rp M (.bool b) c):c=.bool b:=by cases h.2;rfl
theorem Rp.int{k:IntKind}{n:Int}(h:Rp M (.int k n) c):c=.int k n:=by cases h.2;rfl
theorem Rp.str{s:List Nat}(h:Rp M (.str s) c):(∀b∈s,b<256)∧c=.string (bts s):=⟨h.2.1,by cases h.2.2;rfl⟩
theorem Rp.ptr{i:Pos}{o:Nat}(h:Rp M (.ptr i o) c):∃L,M i=some L∧c=.pointer (some (L.at o)):=by
 obtain⟨_,L,a,e⟩:=h;cases e;exact⟨L,a,rfl⟩
theorem Rp.fJ(h:Rp M .fJ c):c=.pointer none:=by cases h.2;rfl
theorem Rp.slice{i:Pos}{o n:Nat}{k:Cap}(h:Rp M (.slice i o n k) c):∃L m,M i=some L∧xU L o n k m∧c=.slice (some (L.at o)) n m:=by
 obtain⟨_,L,m,a,b,e⟩:=h;cases e;exact⟨L,m,a,b,rfl⟩
theorem Rp.af(h:Rp M .af c):c=.slice none 0 0:=by cases h.2;rfl
theorem Rp.emp(h:Rp M .emp c):∃a k,c=.slice (some a) 0 k:=by obtain⟨_,a,k,e⟩:=h;cases e;exact⟨a,k,rfl⟩
theorem Rp.map{i:Pos}(h:Rp M (.map i) c):∃L,M i=some L∧c=.map (some L.blk):=by obtain⟨_,L,a,e⟩:=h;cases e;exact⟨L,a,rfl⟩
theorem Rp.gG(h:Rp M .gG c):c=.map none:=by cases h.2;rfl
theorem Rp.iR(h:Rp M .iR c):c=.nilFunc:=by cases h.2;rfl
theorem Rp.iw(h:Rp M .iw c):c=.nilIface:=by cases h.2;rfl
theorem Rp.iface{t:TypeId}{v:V}(h:Rp M (.iface t v) c):∃x,Rp M v x∧c=.iface t x:=by
 obtain⟨_,x,a,b,e⟩:=h;cases e;exact⟨x,⟨a,b⟩,rfl⟩
theorem Rp.func{fn:Fn}{a b:V}(h:Rp M (.func fn a b) c):∃g x y,jM M fn g∧aX M a.list x∧aX M b.list y∧c=.func g x.toArray y.toArray:=by
 obtain⟨_,g,x,y,f,p,q,r,e⟩:=h;cases e;exact⟨g,x,y,f,aX.of p.1 q,aX.of p.2 r,rfl⟩
theorem Rp.agg{a:V}(h:Rp M (.agg a) c):∃x,aX M a.list x∧(∀y∈x,scalar y=true)∧c=.agg x.toArray:=by
 obtain⟨_,x,p,q,r,e⟩:=h;cases e;exact⟨x,aX.of p q,r,rfl⟩
theorem Rp.tuple{a:V}(h:Rp M (.tuple a) c):∃x,aX M a.list x∧c=.tuple x.toArray:=by
 obtain⟨_,x,p,q,e⟩:=h;cases e;exact⟨x,aX.of p q,rfl⟩
theorem iZ(M:Mp)(b:Bool):Rp M (.bool b) (.bool b):=⟨rfl,rfl⟩
theorem dK(M:Mp)(k:IntKind)(n:Int):Rp M (.int k n) (.int k n):=⟨rfl,rfl⟩
theorem oM{M:Mp}{s:List Nat}(h:∀b∈s,b<256):Rp M (.str s) (.string (bts s)):=⟨rfl,h,rfl⟩
theorem jO{M:Mp}{i:Pos}{L:Loc}(h:M i=some L)(o:Nat):Rp M (.ptr i o) (.pointer (some (L.at o))):=⟨rfl,L,h,rfl⟩
theorem fB{M:Mp}{i:Pos}{L:Loc}(h:M i=some L){o n:Nat}{k:Cap}{m:Nat}(hc:xU L o n k m):Rp M (.slice i o n k) (.slice (some (L.at o)) n m):=⟨rfl,L,m,h,hc,rfl⟩
theorem gu(M:Mp):Rp M V.undef undef:=⟨rfl,[],rfl,rfl,rfl⟩
theorem uS{M:Mp}{vs:List V}{xs:List Value}(h:aX M vs xs)(hs:∀y∈xs,scalar y=true):Rp M (.agg (V.ofList vs)) (.agg xs.toArray):=
 ⟨rfl,xs,V.jX vs,h.to,hs,rfl⟩
theorem IL{M:Mp}{vs:List V}{xs:List Value}(h:aX M vs xs):Rp M (.tuple (V.ofList vs)) (.tuple xs.toArray):=
 ⟨rfl,xs,V.jX vs,h.to,rfl⟩
end
def iP(v:V)(k:Pos→Nat→R α):R α:=match v with| .ptr i o=>k i o|_=>.bad
def asInt(v:V)(k:IntKind→Int→R α):R α:=match v with| .int a n=>k a n|_=>.bad
def iU(v:V)(k:Nat→R α):R α:=match v with| .int _ (.ofNat n)=>k n|_=>.bad
def asBool(v:V)(k:Bool→R α):R α:=match v with| .bool b=>k b|_=>.bad
def dL(h:Hp)(i:Pos)(k:Wr→List V→R α):R α:=match h.get i with|some o=>(match o with| .cells w cs=>k w cs| .bytes cs=>k .ro cs|_=>.bad)|none=>.bad
section
variable{r:α}{h':Hp}
theorem fO{v:V}{k:Pos→Nat→R α}(e:iP v k=.ok r h'):∃i o,v=.ptr i o∧k i o=.ok r h':=by
 unfold iP at e;split at e
 ·exact⟨_,_,rfl,e⟩
 ·cases e
theorem kW{v:V}{k:IntKind→Int→R α}(e:asInt v k=.ok r h'):∃i o,v=.int i o∧k i o=.ok r h':=by
 unfold asInt at e;split at e
 ·exact⟨_,_,rfl,e⟩
 ·cases e
theorem kz{v:V}{k:Nat→R α}(e:iU v k=.ok r h'):∃i o,v=.int i (.ofNat o)∧k o=.ok r h':=by
 unfold iU at e;split at e
 ·exact⟨_,_,rfl,e⟩
 ·cases e
theorem Gg{v:V}{k:Bool→R α}(e:asBool v k=.ok r h'):∃b,v=.bool b∧k b=.ok r h':=by
 unfold asBool at e;split at e
 ·exact⟨_,rfl,e⟩
 ·cases e
theorem dG{h:Hp}{i:Pos}{k:Wr→List V→R α}(e:dL h i k=.ok r h'):∃w cs,(h.get i).bind Ob.row=some (w,cs)∧k w cs=.ok r h':=by
 unfold dL at e;split at e
 ·rename_i o ho
  split at e
  ·exact⟨_,_,by rw [ho];rfl,e⟩
  ·exact⟨_,_,by rw [ho];rfl,e⟩
  ·cases e
 ·cases e
end
def Good(P:Program)(G:Nat)(M:Mp)(h:Hp)(w:World)(s:Sem Value)(r:V)(h':Hp):Prop:=
 ∃c w' M',s.run P w=.ok c w'∧Rp M' r c∧Rel G M' h' w'∧Ext M h w M' h' w'
section
variable{P:Program}{G:Nat}{M:Mp}{h h':Hp}{w:World}{r:V}
theorem Good.same(hr:Rel G M h w){s:Sem Value}{c:Value}(e:s.run P w=.ok c w)(hc:Rp M r c):Good P G M h w s r h:=
 ⟨c,w,M,e,hc,hr,.refl hr⟩
def aW(a:V)(h:Hp):R V:=iP a fun i o=>dL h i fun _ cs=>match qm o cs with|some v=>.ok v h|none=>.bad
def lQ(n:Nat)(a:V)(h:Hp):R V:=iP a fun i o=>dL h i fun _ cs=>match fP n (eY o cs) with|some l=>.ok (.agg (V.ofList l)) h|none=>.bad
def kT:V→Bool
 | .tuple _=>false
 |_=>true
def qg(i:Pos)(o:Nat)(x:V)(h:Hp):R V:=match h.get i with
 |some b=>(match b with
  | .bytes cs=>(match iV o x.cells cs with|some cs'=>.ok V.undef (h.put i (some (.bytes cs')))|none=>.bad)
  |_=>.bad)
 |none=>.bad
def cZ(sz:Nat)(a x:V)(h:Hp):R V:=iP a fun i o=>dL h i fun wr cs=>
 match wr,kT x,Nat.beq x.cells.length sz with
 | .rw t f,true,true=>(match iV o x.cells cs with|some cs'=>.ok V.undef (h.put i (some (.cells (.rw t f) cs')))|none=>.bad)
 | .ro,true,true=>qg i o x h
 |_,_,_=>.bad
def yE(t:TypeId)(z:List V)(h:Hp):R V:=.ok (.ptr h.next 0) (h.new (.cells (.rw t true) z))
def amN(t:TypeId)(x:V)(h:Hp):R V:=match kT x with|true=>.ok (.ptr h.next 0) (h.new (.cells (.rw t true) x.cells))|false=>.bad
theorem pW{t:TypeId}{d:TypeDesc}(ht:P.underlying t=some d):(isAgg t).run P w=.ok (match d with| .struct _| .array _ _=>true|_=>false) w:=by
 simp only [isAgg,Sem.run_bind,run_underlying ht,Result.andThen_ok]
 cases d<;>rfl
theorem am9{t:TypeId}{d:TypeDesc}(ht:P.underlying t=some d)(hd:(match d with| .struct _| .array _ _=>true|_=>false)=false){a:V}{c:Value}(hr:Rel G M h w)(ha:Rp M a c)(e:aW a h=.ok r h'):
  Good P G M h w (Instr.loadAt t c) r h':=by
 obtain⟨i,o,rfl,e⟩:=fO e
 obtain⟨wr,cs,hi,e⟩:=dG e
 obtain⟨L,hL,rfl⟩:=ha.ptr
 rw [jB] at e
 split at e
 ·rename_i v hv
  cases e
  obtain⟨x,hx,hrx,_⟩:=hr.cell hi hL hv
  refine Good.same hr (c:=x) ?_ hrx
  simp only [Instr.loadAt,Instr.sureAddr,loadVar,Sem.run_bind,Sem.run_pure,Result.andThen_ok,pW ht,hd]
  simp [run_load,hx]
 ·cases e
theorem am8{t:TypeId}{d:TypeDesc}{ti:TypeInfo}(ht:P.underlying t=some d)(hd:(match d with| .struct _| .array _ _=>true|_=>false)=true)(hti:P.info? t=some ti){a:V}{c:Value}
  (hr:Rel G M h w) (ha:Rp M a c) (e:lQ ti.size a h=.ok r h'):Good P G M h w (Instr.loadAt t c) r h':=by
 obtain⟨i,o,rfl,e⟩:=fO e
 obtain⟨wr,cs,hi,e⟩:=dG e
 obtain⟨L,hL,rfl⟩:=ha.ptr
 split at e
 ·rename_i l hl
  cases e
  obtain⟨xs,hx,hxl,hxs,hxc⟩:=hr.cells hi hL hl
  refine Good.same hr (c:=.agg xs.toArray) ?_ (uS hx hxs)
  have:=run_loadCells_list (P:=P) w (L.at o) xs hxc
  rw [hxl] at this
  simp only [Instr.loadAt,Instr.sureAddr,loadVar,Sem.run_bind,Sem.run_pure,Result.andThen_ok,pW ht,hd]
  simp [sizeOf,typeInfo,hti,this]
 ·cases e
theorem ku{x:V}{c:Value}(hx:Rp M x c)(hn:kT x=true):∀y∈c.cells.toList,scalar y=true:=by
 intro y hy
 cases x with
 |agg a=>
  obtain⟨xs,_,hs,rfl⟩:=hx.agg
  exact hs y (by simpa [Value.cells] using hy)
 |tuple a=>cases hn
 |nil=>cases hx.1
 |cons a b=>cases hx.1
 |bool b=>cases hx.bool;simp [Value.cells] at hy;subst hy;rfl
 |int k n=>cases hx.int;simp [Value.cells] at hy;subst hy;rfl
 |str s=>cases hx.str.2;simp [Value.cells] at hy;subst hy;rfl
 |ptr i o=>obtain⟨L,_,rfl⟩:=hx.ptr;simp [Value.cells] at hy;subst hy;rfl
 |fJ=>cases hx.fJ;simp [Value.cells] at hy;subst hy;rfl
 |slice i o n k=>obtain⟨L,m,_,_,rfl⟩:=hx.slice;simp [Value.cells] at hy;subst hy;rfl
 |af=>cases hx.af;simp [Value.cells] at hy;subst hy;rfl
 |emp=>obtain⟨a,k,rfl⟩:=hx.emp;simp [Value.cells] at hy;subst hy;rfl
 |map i=>obtain⟨L,_,rfl⟩:=hx.map;simp [Value.cells] at hy;subst hy;rfl
 |gG=>cases hx.gG;simp [Value.cells] at hy;subst hy;rfl
 |func f a b=>obtain⟨_,_,_,_,_,_,rfl⟩:=hx.func;simp [Value.cells] at hy;subst hy;rfl
 |iR=>cases hx.iR;simp [Value.cells] at hy;subst hy;rfl
 |iface t v=>obtain⟨_,_,rfl⟩:=hx.iface;simp [Value.cells] at hy;subst hy;rfl
 |iw=>cases hx.iw;simp [Value.cells] at hy;subst hy;rfl
theorem amz{t:TypeId}{ti:TypeInfo}(hti:P.info? t=some ti){a x:V}{c d:Value}(hr:Rel G M h w)(ha:Rp M a c)(hx:Rp M x d)(e:cZ ti.size a x h=.ok r h'):
  ∃w',(Instr.storeAt t c d).run P w=.ok () w'∧r=V.undef∧Rel G M h' w'∧Ext M h w M h' w':=by
 obtain⟨i,o,rfl,e⟩:=fO e
 obtain⟨wr,cs,hi,e⟩:=dG e
 obtain⟨L,hL,rfl⟩:=ha.ptr
 split at e
 ·rename_i t0 f0 hnt hlen
  split at e
  ·rename_i cs' hp
   cases e
   have hxc:=hx.cells
   obtain⟨w',h1,h2,h3⟩:=hr.store (P:=P) (gZ hi) hL hp hxc (ku hx hnt)
   refine⟨w',?_,rfl,h2,h3⟩
   have hsz:d.cells.size=ti.size:=by
    have:=hxc.length
    have h4:=Nat.eq_of_beq_eq_true hlen
    simp at this;omega
   simp [Instr.storeAt,Instr.sureAddr,storeVar,sizeOf,typeInfo,hti,hsz,h1]
  ·cases e
 ·rename_i hnt hlen
  unfold qg at e
  split at e
  ·rename_i b hb
   split at e
   ·rename_i cs0
    split at e
    ·rename_i cs' hp
     cases e
     have hxc:=hx.cells
     obtain⟨w',h1,h2,h3⟩:=hr.aEq (P:=P) hb hL hp hxc (ku hx hnt)
     refine⟨w',?_,rfl,h2,h3⟩
     have hsz:d.cells.size=ti.size:=by
      have:=hxc.length
      have h4:=Nat.eq_of_beq_eq_true hlen
      simp at this;omega
     simp [Instr.storeAt,Instr.sureAddr,storeVar,sizeOf,typeInfo,hti,hsz,h1]
    ·cases e
   ·cases e
  ·cases e
 ·cases e
theorem Rel.row(hr:Rel G M h w)(vs:List V)(c:Array Value)(el:TypeId)(fr:Nat×Nat)(hx:aX M vs (c.toList.take vs.length))(hs:∀y∈c.toList,scalar y=true)
  (hf:∀k,k≤c.size→¬(fr.1≤k∧k<fr.2)) (full:Bool) (hfull:full=true→c.size=vs.length) {w':World} (hw:w'.heap=w.heap.push (.cells c el fr)) (hos:w'.os=w.os) (ht:w'.tape=w.tape) (hout:w'.output=w.output):
  Rel G (M.add h.next ⟨w.heap.size,0,c.size⟩) (h.new (.cells (.rw el full) vs)) w'∧Ext M h w (M.add h.next ⟨w.heap.size,0,c.size⟩) (h.new (.cells (.rw el full) vs)) w':=by
 have hcell:∀(N:Mp),M.le N→∀(k:Nat) (v:V),vs[k]?=some v→∃x,c[0+k]?=some x∧Rp N v x∧scalar x=true:=by
  intro N hle k v hk
  obtain⟨x,hx',hrx⟩:=hx.get hk
  rw [List.getElem?_take] at hx'
  split at hx'
  ·exact⟨x,by simpa using hx',hrx.mono hle,hs x (List.mem_of_getElem? hx')⟩
  ·cases hx'
 have:=hr.new (.cells (.rw el full) vs) (.cells c el fr) c.size hw hos ht hout (fun N hle=>⟨c,el,fr,by rw [hw];simp,rfl,hcell N hle,rfl,fun k _ hk=>hf k hk,fun h=>⟨rfl,hfull h⟩⟩)
 exact⟨this.1,this.2.1⟩
theorem aFA{t:TypeId}{x:V}{c:Value}(hr:Rel G M h w)(hx:Rp M x c)(e:amN t x h=.ok r h'):Good P G M h w (Instr.box t c) r h':=by
 unfold amN at e
 split at e
 ·rename_i hn
  cases e
  have hc:=hx.cells
  have hl:x.cells.length=c.cells.size:=by have:=hc.length;simpa using this.symm
  have:=hr.row (w':=w.alloc (.cells c.cells t)) x.cells c.cells t (0,0) (by rw [hl,←Array.length_toList,List.take_length];exact hc) (ku hx hn) (by simp) true (fun _=>hl.symm) rfl rfl rfl rfl
  refine⟨.pointer (some ⟨w.heap.size,0,none⟩),_,_,?_,?_,this.1,this.2⟩
  ·simp [Instr.box,newVar,newRow]
  ·exact jO (M.bZ _ _) 0
 ·cases e
end
end
end Go.Vm
namespace Go.Vm
noncomputable section
theorem mD{a b:IntKind}(h:Nat.beq (kix a) (kix b)=true):a=b:=by
 have:=Nat.eq_of_beq_eq_true h
 cases a<;>cases b<;>first|rfl|(simp [kix] at this)
def bQ{α:Type}(m:Nat)(k:Nat→α):α:=Nat.rec (motive:=fun _=>α) (k 0) (fun n _=>k (Nat.succ n)) m
theorem bf{α:Type}(m:Nat)(k:Nat→α):bQ m k=k m:=by cases m<;>rfl
def fZ(k:IntKind)(n:Int)(h:Hp):R V:=match n with
 | .ofNat m=>bQ m fun m=>.ok (.int k (.ofNat m)) h
 | .negSucc m=>bQ m fun m=>.ok (.int k (.negSucc m)) h
theorem fD(k:IntKind)(n:Int)(h:Hp):fZ k n h=.ok (.int k n) h:=by
 cases n<;>simp [fZ,bf]
def cO(b:Bool)(h:Hp):R V:=match b with
 |true=>.ok (.bool true) h
 |false=>.ok (.bool false) h
theorem dF(b:Bool)(h:Hp):cO b h=.ok (.bool b) h:=by cases b<;>rfl
def wrap64(n:Int):Int:=match n with
 | .ofNat m=>(match Nat.blt m 9223372036854775808 with|true=>.ofNat m|false=>IntKind.i64.wrap (.ofNat m))
 | .negSucc m=>(match Nat.blt m 9223372036854775808 with|true=>.negSucc m|false=>IntKind.i64.wrap (.negSucc m))
def mW(k:IntKind)(n:Int):Int:=match k with
 | .i64=>wrap64 n
 |k=>k.wrap n
theorem wrap_in{n:Int}(h1: -9223372036854775808≤n)(h2:n<9223372036854775808):IntKind.i64.wrap n=n:=by
 exact IntWalk.i64_in n ⟨h1,by omega⟩
theorem Fb(n:Int):wrap64 n=IntKind.i64.wrap n:=by
 cases n with
 |ofNat m=>
  simp only [wrap64]
  split
  ·rename_i hb
   have:m<9223372036854775808:=by simpa [Nat.blt_eq] using hb
   rw [wrap_in]<;>simp<;>omega
  ·rfl
 |negSucc m=>
  simp only [wrap64]
  split
  ·rename_i hb
   have:m<9223372036854775808:=by simpa [Nat.blt_eq] using hb
   rw [wrap_in]<;>omega
  ·rfl
theorem oI(k:IntKind)(n:Int):mW k n=k.wrap n:=by
 cases k<;>simp [mW,Fb]
def jv:Int→Int→Bool
 | .ofNat a,.ofNat b=>Nat.ble a b
 | .negSucc a,.negSucc b=>Nat.ble b a
 | .negSucc _,.ofNat _=>true
 | .ofNat _,.negSucc _=>false
theorem jl(a b:Int):iK a b=(a==b):=by
 cases a<;>cases b<;>simp only [iK]
 ·rw [Bool.eq_iff_iff];simp [Nat.beq_eq];omega
 ·rfl
 ·rfl
 ·rw [Bool.eq_iff_iff];simp [Nat.beq_eq]
theorem oZ(a b:Int):jv a b=decide (a≤b):=by
 cases a<;>cases b<;>simp only [jv]<;>rw [Bool.eq_iff_iff]<;>simp [Nat.ble_eq]<;>omega
def rV:List Nat→List Nat→Bool
 |_,[]=>false
 | [],_::_=>true
 |a::x,b::y=>(match Nat.blt a b with|true=>true|false=>(match Nat.beq a b with|true=>rV x y|false=>false))
theorem oK{a b:Nat}(ha:a<256)(hb:b<256)(h:UInt8.ofNat a=UInt8.ofNat b):a=b:=by
 have:=congrArg UInt8.toNat h
 simp at this
 omega
theorem oJ{a:Nat}(ha:a<256):(UInt8.ofNat a).toNat=a:=by simp;omega
theorem Dw(s:List Nat):(bts s).toList=s.map UInt8.ofNat:=by
 simp [bts]
theorem gW(s:List Nat):(bts s).size=s.length:=by simp [bts,ByteArray.size]
theorem rW:∀{s t:List Nat},(∀b∈s,b<256)→(∀b∈t,b<256)→gQ s t=(s.map UInt8.ofNat==t.map UInt8.ofNat)
 | [],[],_,_=>rfl
 | [],b::y,_,_=>rfl
 |a::x,[],_,_=>rfl
 |a::x,b::y,hs,ht=>by
  have ih:=rW (s:=x) (t:=y) (fun c hc=>hs c (by simp [hc])) (fun c hc=>ht c (by simp [hc]))
  simp only [gQ,List.map_cons]
  have ha:=hs a (by simp)
  have hb:=ht b (by simp)
  show _=(UInt8.ofNat a==UInt8.ofNat b&&(x.map UInt8.ofNat==y.map UInt8.ofNat))
  cases hab:Nat.beq a b with
  |true=>rw [Nat.eq_of_beq_eq_true hab];simp [ih]
  |false=>
   have:¬UInt8.ofNat a=UInt8.ofNat b:=fun e=>Nat.ne_of_beq_eq_false hab (oK ha hb e)
   simp [this]
theorem IA:∀{s t:List Nat},(∀b∈s,b<256)→(∀b∈t,b<256)→rV s t=Op.bytesLess (s.map UInt8.ofNat) (t.map UInt8.ofNat)
 | [],[],_,_=>rfl
 | [],b::y,_,_=>rfl
 |a::x,[],_,_=>rfl
 |a::x,b::y,hs,ht=>by
  have ih:=IA (s:=x) (t:=y) (fun c hc=>hs c (by simp [hc])) (fun c hc=>ht c (by simp [hc]))
  have ha:=hs a (by simp)
  have hb:=ht b (by simp)
  simp only [rV,List.map_cons,Op.bytesLess,←ih]
  have hlt:decide (UInt8.ofNat a<UInt8.ofNat b)=Nat.blt a b:=by
   rw [Bool.eq_iff_iff];simp [UInt8.lt_iff_toNat_lt,Nat.blt_eq];omega
  have heq:(UInt8.ofNat a==UInt8.ofNat b)=Nat.beq a b:=by
   rw [Bool.eq_iff_iff];simp only [beq_iff_eq,Nat.beq_eq]
   exact⟨oK ha hb,fun e=>by rw [e]⟩
  rw [hlt,heq]
  cases Nat.blt a b<;>cases Nat.beq a b<;>simp
inductive EqC where
 |none
 |bool
 |ptr (n:Nat)
 |slice
 |map
 |func
 |iface (lit:Bool)
 deriving Inhabited
def wI(c:EqC)(x y:V)(k:Bool→R V):R V:=
 match c with
 | .bool=>(match x,y with| .bool a,.bool b=>k (match a,b with|true,true=>true|false,false=>true|_,_=>false)|_,_=>.bad)
 | .ptr n=>(match x with
  | .fJ=>(match y with| .fJ=>k true| .ptr _ _=>k false|_=>.bad)
  | .ptr i o=>(match y with| .fJ=>k false| .ptr j p=>(match Nat.beq n 0,i.eq j with|false,true=>k (Nat.beq o p)|_,_=>.bad)|_=>.bad)
  |_=>.bad)
 | .slice=>(match x,y with
  | .af,.af=>k true| .af,.slice _ _ _ _=>k false| .af,.emp=>k false| .slice _ _ _ _,.af=>k false| .emp,.af=>k false|_,_=>.bad)
 | .map=>(match x,y with| .gG,.gG=>k true| .gG,.map _=>k false| .map _,.gG=>k false|_,_=>.bad)
 | .func=>(match x,y with| .iR,.iR=>k true| .iR,.func _ _ _=>k false| .func _ _ _,.iR=>k false|_,_=>.bad)
 | .iface l=>(match x,y with
  | .iw,.iw=>(match l with|true=>k true|false=>.bad)
  | .iw,.iface _ _=>k false| .iface _ _,.iw=>k false
  | .iface t _,.iface u _=>(match Nat.beq t u with|false=>k false|true=>.bad)
  |_,_=>.bad)
 | .none=>.bad
def Aq(op:BinOp)(k:IntKind)(a b:Int)(h:Hp):R V:=
 match op with
 | .add=>fZ k (mW k (Int.add a b)) h
 | .sub=>fZ k (mW k (Int.sub a b)) h
 | .mul=>fZ k (mW k (Int.mul a b)) h
 | .quo=>(match iK b 0 with|true=>.bad|false=>fZ k (mW k (Int.tdiv a b)) h)
 | .rem=>(match iK b 0 with|true=>.bad|false=>fZ k (Int.tmod a b) h)
 | .and=>fZ k (k.wrap (BitVec.ofInt k.bits a&&&BitVec.ofInt k.bits b).toNat) h
 | .or=>fZ k (k.wrap (BitVec.ofInt k.bits a|||BitVec.ofInt k.bits b).toNat) h
 | .xor=>fZ k (k.wrap (BitVec.ofInt k.bits a^^^BitVec.ofInt k.bits b).toNat) h
 | .andNot=>fZ k (k.wrap (BitVec.ofInt k.bits a&&&~~~BitVec.ofInt k.bits b).toNat) h
 | .eql=>cO (iK a b) h
 | .neq=>cO (not (iK a b)) h
 | .lss=>cO (not (jv b a)) h
 | .leq=>cO (jv a b) h
 | .gtr=>cO (not (jv a b)) h
 | .geq=>cO (jv b a) h
 |_=>.bad
def qC(op:BinOp)(k:IntKind)(a b:Int)(h:Hp):R V:=
 match b with
 | .ofNat n=>(match op with
  | .shl=>fZ k (k.wrap (a*2^(min n k.bits))) h
  | .shr=>fZ k (a.fdiv (2^(min n k.bits))) h
  |_=>.bad)
 |_=>.bad
def zF(op:BinOp)(s t:List Nat)(h:Hp):R V:=
 match op with
 | .add=>(match Nat.blt (s.length+t.length) 4611686018427387904 with|true=>.ok (.str (s++t)) h|false=>.bad)
 | .eql=>cO (gQ s t) h
 | .neq=>cO (not (gQ s t)) h
 | .lss=>cO (rV s t) h
 | .leq=>cO (or (rV s t) (gQ s t)) h
 | .gtr=>cO (not (or (rV s t) (gQ s t))) h
 | .geq=>cO (not (rV s t)) h
 |_=>.bad
def oD:BinOp→Bool
 | .shl| .shr=>true
 |_=>false
def aO(op:BinOp)(c:EqC)(x y:V)(h:Hp):R V:=
 match x with
 | .int k a=>(match y with
  | .int k' b=>(match oD op with
   |true=>qC op k a b h
   |false=>(match Nat.beq (kix k) (kix k') with|true=>Aq op k a b h|false=>.bad))
  |_=>.bad)
 | .str s=>(match y with| .str t=>zF op s t h|_=>.bad)
 |x=>(match op with
  | .eql=>wI c x y fun b=>cO b h
  | .neq=>wI c x y fun b=>cO (not b) h
  |_=>.bad)
def xk(d:TypeDesc)(sz:Nat)(lit:Bool):EqC:=match d with
 | .bool=>.bool
 | .pointer _=>.ptr sz
 | .slice _=>.slice
 | .map _ _=>.map
 | .func _ _ _=>.func
 | .interface ms=>.iface (lit||ms.isEmpty)
 |_=>.none
end
end Go.Vm
namespace Go.Vm
noncomputable section
variable{P:Program}{G:Nat}{M:Mp}{h h':Hp}{w:World}{r:V}
def isC:Operand→Bool
 | .const _=>true
 |_=>false
theorem kM{op:BinOp}{t:TypeId}{xo yo:Operand}{a b:Value}(h1:a≠ .nilIface∨b≠ .nilIface)(h2:∀c,a≠ .agg c):(eqGuard op t xo yo a b).run P w=.ok () w:=by
 unfold eqGuard
 cases op<;>first
  |rfl
  |(cases a<;>first
    |exact absurd rfl (h2 _)
    |rfl
    |(cases b<;>first|rfl|exact absurd h1 (by simp)))
theorem ane{op:BinOp}(hop:oD op=false){t:TypeId}{k:IntKind}{a b:Int}(hr:Rel G M h w)(e:Aq op k a b h=.ok r h'):
  Good P G M h w (binOp op t (.int k a) (.int k b)) r h':=by
 have fin:∀(v:Int) (s:Sem Value),s.run P w=.ok (.int k v) w→fZ k v h=.ok r h'→Good P G M h w s r h':=by
  intro v s hs e
  rw [fD] at e;cases e
  exact .same hr hs (dK M k v)
 have finb:∀(v:Bool) (s:Sem Value),s.run P w=.ok (.bool v) w→cO v h=.ok r h'→Good P G M h w s r h':=by
  intro v s hs e
  rw [dF] at e;cases e
  exact .same hr hs (iZ M v)
 have nlt:∀x y:Int,(!jv y x)=decide (x<y):=by
  intro x y;rw [oZ,Bool.eq_iff_iff];simp
 cases op<;>simp only [oD] at hop<;>simp only [Aq,oI,jl,nlt] at e<;>(try simp only [oZ] at e)
 case add=>exact fin _ _ (by simp [binOp,Op.intArith]) e
 case sub=>exact fin _ _ (by simp [binOp,Op.intArith];rfl) e
 case mul=>exact fin _ _ (by simp [binOp,Op.intArith]) e
 case quo=>
  split at e
  ·cases e
  ·rename_i hb
   have hb':b≠0:=by simpa using hb
   exact fin _ _ (by simp [binOp,Op.intDiv,hb']) e
 case rem=>
  split at e
  ·cases e
  ·rename_i hb
   have hb':b≠0:=by simpa using hb
   exact fin _ _ (by simp [binOp,Op.intDiv,hb']) e
 case and=>exact fin _ _ (by simp [binOp,Op.intBits]) e
 case or=>exact fin _ _ (by simp [binOp,Op.intBits]) e
 case xor=>exact fin _ _ (by simp [binOp,Op.intBits]) e
 case andNot=>exact fin _ _ (by simp [binOp,Op.intBits]) e
 case eql=>exact finb _ _ (by simp [binOp,Op.intCmp]) e
 case neq=>exact finb _ _ (by simp [binOp,Op.intCmp,bne]) e
 case lss=>exact finb _ _ (by simp [binOp,Op.intCmp]) e
 case leq=>exact finb _ _ (by simp [binOp,Op.intCmp]) e
 case gtr=>exact finb _ _ (by simp [binOp,Op.intCmp]) e
 case geq=>exact finb _ _ (by simp [binOp,Op.intCmp]) e
 all_goals cases e
theorem abl{op:BinOp}(hop:oD op=true){t:TypeId}{k k':IntKind}{a b:Int}(hr:Rel G M h w)(e:qC op k a b h=.ok r h'):
  Good P G M h w (binOp op t (.int k a) (.int k' b)) r h':=by
 cases b with
 |negSucc n=>cases e
 |ofNat n=>
  simp only [qC] at e
  have hn:¬Int.ofNat n<0:=by simp
  cases op<;>simp only [oD,Bool.false_eq_true] at hop<;>simp only [fD] at e<;>cases e
  ·exact .same hr (by simp only [binOp,Op.shift,hn,if_false];rfl) (dK M k _)
  ·exact .same hr (by simp only [binOp,Op.shift,hn,if_false];rfl) (dK M k _)
theorem agA(s t:List Nat):bts s++bts t=bts (s++t):=by
 apply ByteArray.ext
 simp [bts]
theorem amy{op:BinOp}{t:TypeId}{s u:List Nat}(hs:∀b∈s,b<256)(hu:∀b∈u,b<256)(hr:Rel G M h w)(e:zF op s u h=.ok r h'):
  Good P G M h w (binOp op t (.string (bts s)) (.string (bts u))) r h':=by
 have finb:∀(v:Bool) (s:Sem Value),s.run P w=.ok (.bool v) w→cO v h=.ok r h'→Good P G M h w s r h':=by
  intro v s hs e
  rw [dF] at e;cases e
  exact .same hr hs (iZ M v)
 have e1:=rW hs hu
 have e2:=IA hs hu
 have b1:=Dw s
 have b2:=Dw u
 cases op<;>simp only [zF,e1,e2] at e
 case add=>
  split at e
  ·rename_i hl
   cases e
   have hl':s.length+u.length<4611686018427387904:=by simpa [Nat.blt_eq] using hl
   have hn:¬(((bts s).size+(bts u).size:Nat):Int)>IntKind.i64.max:=by
    rw [gW,gW]
    simp only [IntKind.max,IntKind.signed,IntKind.bits,if_true]
    omega
   refine .same hr (c:=.string (bts (s++u))) ?_ (oM (fun b hb=>?_))
   ·simp only [binOp,Op.stringOp,hn,if_false,agA]
    rfl
   ·rcases List.mem_append.1 hb with hb|hb
    ·exact hs b hb
    ·exact hu b hb
  ·cases e
 case eql=>exact finb _ _ (by simp only [binOp,Op.stringOp,b1,b2];rfl) e
 case neq=>exact finb _ _ (by simp only [binOp,Op.stringOp,b1,b2];rfl) e
 case lss=>exact finb _ _ (by simp only [binOp,Op.stringOp,b1,b2];rfl) e
 case leq=>exact finb _ _ (by simp only [binOp,Op.stringOp,b1,b2];rfl) e
 case gtr=>exact finb _ _ (by simp only [binOp,Op.stringOp,b1,b2];rfl) e
 case geq=>exact finb _ _ (by simp only [binOp,Op.stringOp,b1,b2];rfl) e
 all_goals cases e
theorem zO{t:TypeId}{ms:Array (String×TypeId)}(hd:P.underlying t=some (.interface ms)){op:BinOp}{xo yo:Operand}
  (hl:((isC xo||isC yo)||ms.isEmpty)=true):(eqGuard op t xo yo .nilIface .nilIface).run P w=.ok () w:=by
 by_cases hc:(isC xo||isC yo)=true
 ·unfold eqGuard
  cases xo<;>cases yo<;>first
   |(simp [isC] at hc;done)
   |(cases op<;>rfl)
 ·have hm:ms.isEmpty=true:=by
   cases hm:ms.isEmpty
   ·rw [hm,Bool.or_false] at hl;exact absurd hl hc
   ·rfl
  have hg:∀n,(Op.eqGuardIn (n+1) t .nilIface .nilIface).run P w=.ok false w:=fun n=>by
   simp [Op.eqGuardIn,run_underlying hd,hm]
  have hg':(Op.eqGuardIn Op.maxDepth t .nilIface .nilIface).run P w=.ok false w:=by rw [show Op.maxDepth=9999+1 from rfl];exact hg 9999
  clear hg
  unfold eqGuard
  cases xo<;>cases yo<;>first
   |(exfalso;exact hc rfl)
   |(cases op<;>first|rfl|simp [hg'])
set_option maxHeartbeats 2000000 in
theorem IG{d:TypeDesc}{t:TypeId}{sz:Nat}{xo yo:Operand}(hd:P.underlying t=some d)(hsz:∀e,d=.pointer e→∃ti,P.info? e=some ti∧ti.size=sz)
  {x y:V} {a b:Value} (hx:Rp M x a) (hy:Rp M y b) {k:Bool→R V} (e:wI (xk d sz (isC xo||isC yo)) x y k=.ok r h'):
  ∃q,k q=.ok r h'∧(∀op,(eqGuard op t xo yo a b).run P w=.ok () w)∧(Op.equal t a b).run P w=.ok q w∧(∀c,a≠ .agg c)∧
   (∀op z,(op=.eql→binOp op t a b=(do pure (.bool (←Op.equal t a b))))∧(op=.neq→z=0→binOp op t a b=(do pure (.bool (!(←Op.equal t a b)))))):=by
 have hq:∀{a b:Value} {q:Bool},(∀n,(Op.equalIn (n+1) t a b).run P w=.ok q w)→(Op.equal t a b).run P w=.ok q w:=fun h=>h 9999
 have pl:∀{a b:Value},(a≠ .nilIface∨b≠ .nilIface)→(∀c,a≠ .agg c)→∀op,(eqGuard op t xo yo a b).run P w=.ok () w:=fun h1 h2 op=>kM h1 h2
 cases d<;>simp only [xk,wI] at e
 case bool=>
  split at e
  ·cases hx.bool;cases hy.bool
   rename_i p q
   refine⟨_,e,pl (.inl (by simp)) (by simp),hq (fun n=>?_),by simp,fun op z=>⟨fun h=>by subst h;rfl,fun h _=>by subst h;rfl⟩⟩
   cases p<;>cases q<;>simp [Op.equalIn,run_underlying hd]
  ·cases e
 case pointer el=>
  obtain⟨ti,hti,hts⟩:=hsz el rfl
  split at e
  ·cases hx.fJ
   split at e
   ·cases hy.fJ
    exact⟨_,e,pl (.inl (by simp)) (by simp),hq (fun n=>by simp [Op.equalIn,run_underlying hd]),by simp,fun op z=>⟨fun h=>by subst h;rfl,fun h _=>by subst h;rfl⟩⟩
   ·obtain⟨L,hL,rfl⟩:=hy.ptr
    exact⟨_,e,pl (.inl (by simp)) (by simp),hq (fun n=>by simp [Op.equalIn,run_underlying hd]),by simp,fun op z=>⟨fun h=>by subst h;rfl,fun h _=>by subst h;rfl⟩⟩
   ·cases e
  ·rename_i i o
   obtain⟨L,hL,rfl⟩:=hx.ptr
   split at e
   ·cases hy.fJ
    exact⟨_,e,pl (.inl (by simp)) (by simp),hq (fun n=>by simp [Op.equalIn,run_underlying hd]),by simp,fun op z=>⟨fun h=>by subst h;rfl,fun h _=>by subst h;rfl⟩⟩
   ·rename_i j p
    obtain⟨K,hK,rfl⟩:=hy.ptr
    split at e
    ·rename_i hz hij
     have hij':=Pos.eq_iff.1 hij
     subst hij'
     rw [hL] at hK;cases hK
     have hne:ti.size≠0:=by rw [hts];exact Nat.ne_of_beq_eq_false hz
     refine⟨_,e,pl (.inl (by simp)) (by simp),hq (fun n=>?_),by simp,fun op z=>⟨fun h=>by subst h;rfl,fun h _=>by subst h;rfl⟩⟩
     have hb:(({block:=L.blk,off:=L.off+o,spot:=none}:Addr)=={block:=L.blk,off:=L.off+p,spot:=none})=Nat.beq o p:=by
      rw [Bool.eq_iff_iff];simp [Nat.beq_eq]
     simp [Op.equalIn,run_underlying hd,sizeOf,typeInfo,hti,hne,sameAddr,Loc.at,hb]
    ·cases e
   ·cases e
  ·cases e
 case slice el=>
  split at e
  ·cases hx.af;cases hy.af
   exact⟨_,e,pl (.inl (by simp)) (by simp),hq (fun n=>by simp [Op.equalIn,run_underlying hd]),by simp,fun op z=>⟨fun h=>by subst h;rfl,fun h _=>by subst h;rfl⟩⟩
  ·cases hx.af;obtain⟨L,m,_,_,rfl⟩:=hy.slice
   exact⟨_,e,pl (.inl (by simp)) (by simp),hq (fun n=>by simp [Op.equalIn,run_underlying hd]),by simp,fun op z=>⟨fun h=>by subst h;rfl,fun h _=>by subst h;rfl⟩⟩
  ·cases hx.af;obtain⟨L,m,rfl⟩:=hy.emp
   exact⟨_,e,pl (.inl (by simp)) (by simp),hq (fun n=>by simp [Op.equalIn,run_underlying hd]),by simp,fun op z=>⟨fun h=>by subst h;rfl,fun h _=>by subst h;rfl⟩⟩
  ·cases hy.af;obtain⟨L,m,_,_,rfl⟩:=hx.slice
   exact⟨_,e,pl (.inl (by simp)) (by simp),hq (fun n=>by simp [Op.equalIn,run_underlying hd]),by simp,fun op z=>⟨fun h=>by subst h;rfl,fun h _=>by subst h;rfl⟩⟩
  ·cases hy.af;obtain⟨L,m,rfl⟩:=hx.emp
   exact⟨_,e,pl (.inl (by simp)) (by simp),hq (fun n=>by simp [Op.equalIn,run_underlying hd]),by simp,fun op z=>⟨fun h=>by subst h;rfl,fun h _=>by subst h;rfl⟩⟩
  ·cases e
 case map kt et=>
  split at e
  ·cases hx.gG;cases hy.gG
   exact⟨_,e,pl (.inl (by simp)) (by simp),hq (fun n=>by simp [Op.equalIn,run_underlying hd]),by simp,fun op z=>⟨fun h=>by subst h;rfl,fun h _=>by subst h;rfl⟩⟩
  ·cases hx.gG;obtain⟨L,_,rfl⟩:=hy.map
   exact⟨_,e,pl (.inl (by simp)) (by simp),hq (fun n=>by simp [Op.equalIn,run_underlying hd]),by simp,fun op z=>⟨fun h=>by subst h;rfl,fun h _=>by subst h;rfl⟩⟩
  ·cases hy.gG;obtain⟨L,_,rfl⟩:=hx.map
   exact⟨_,e,pl (.inl (by simp)) (by simp),hq (fun n=>by simp [Op.equalIn,run_underlying hd]),by simp,fun op z=>⟨fun h=>by subst h;rfl,fun h _=>by subst h;rfl⟩⟩
  ·cases e
 case func ps rs v=>
  split at e
  ·cases hx.iR;cases hy.iR
   exact⟨_,e,pl (.inl (by simp)) (by simp),hq (fun n=>by simp [Op.equalIn,run_underlying hd]),by simp,fun op z=>⟨fun h=>by subst h;rfl,fun h _=>by subst h;rfl⟩⟩
  ·cases hx.iR;obtain⟨_,_,_,_,_,_,rfl⟩:=hy.func
   exact⟨_,e,pl (.inl (by simp)) (by simp),hq (fun n=>by simp [Op.equalIn,run_underlying hd]),by simp,fun op z=>⟨fun h=>by subst h;rfl,fun h _=>by subst h;rfl⟩⟩
  ·cases hy.iR;obtain⟨_,_,_,_,_,_,rfl⟩:=hx.func
   exact⟨_,e,pl (.inl (by simp)) (by simp),hq (fun n=>by simp [Op.equalIn,run_underlying hd]),by simp,fun op z=>⟨fun h=>by subst h;rfl,fun h _=>by subst h;rfl⟩⟩
  ·cases e
 case interface ms=>
  split at e
  ·cases hx.iw;cases hy.iw
   split at e
   ·rename_i hl
    refine⟨_,e,fun op=>?_,hq (fun n=>by simp [Op.equalIn,run_underlying hd]),by simp,fun op z=>⟨fun h=>by subst h;rfl,fun h _=>by subst h;rfl⟩⟩
    exact zO hd hl
   ·cases e
  ·cases hx.iw;obtain⟨_,_,rfl⟩:=hy.iface
   exact⟨_,e,pl (.inr (by simp)) (by simp),hq (fun n=>by simp [Op.equalIn,run_underlying hd]),by simp,fun op z=>⟨fun h=>by subst h;rfl,fun h _=>by subst h;rfl⟩⟩
  ·cases hy.iw;obtain⟨_,_,rfl⟩:=hx.iface
   exact⟨_,e,pl (.inl (by simp)) (by simp),hq (fun n=>by simp [Op.equalIn,run_underlying hd]),by simp,fun op z=>⟨fun h=>by subst h;rfl,fun h _=>by subst h;rfl⟩⟩
  ·obtain⟨_,_,rfl⟩:=hx.iface;obtain⟨_,_,rfl⟩:=hy.iface
   split at e
   ·rename_i htu
    have:¬_=_:=Nat.ne_of_beq_eq_false htu
    exact⟨_,e,pl (.inl (by simp)) (by simp),hq (fun n=>by simp [Op.equalIn,run_underlying hd,this]),by simp,fun op z=>⟨fun h=>by subst h;rfl,fun h _=>by subst h;rfl⟩⟩
   ·cases e
  ·cases e
 all_goals cases e
theorem aFB{op:BinOp}{t:TypeId}{d:TypeDesc}{sz:Nat}{xo yo:Operand}(hd:P.underlying t=some d)(hsz:∀e,d=.pointer e→∃ti,P.info? e=some ti∧ti.size=sz)
  {x y:V} {a b:Value} (hr:Rel G M h w) (hx:Rp M x a) (hy:Rp M y b) (e:aO op (xk d sz (isC xo||isC yo)) x y h=.ok r h'):
  Good P G M h w (do eqGuard op t xo yo a b;binOp op t a b) r h':=by
 have seqd:∀{s:Sem Value},(eqGuard op t xo yo a b).run P w=.ok () w→Good P G M h w s r h'→Good P G M h w (do eqGuard op t xo yo a b;s) r h':=by
  rintro s hg ⟨c,w',M',h1,h2⟩
  exact⟨c,w',M',by simp [hg,h1],h2⟩
 unfold aO at e
 split at e
 ·cases hx.int
  split at e
  ·cases hy.int
   refine seqd (kM (.inl (by simp)) (by simp)) ?_
   split at e
   ·rename_i hs;exact abl hs hr e
   ·rename_i hs
    split at e
    ·rename_i hk
     cases mD hk
     exact ane hs hr e
    ·cases e
  ·cases e
 ·cases hx.str.2
  split at e
  ·cases hy.str.2
   refine seqd (kM (.inl (by simp)) (by simp)) ?_
   exact amy hx.str.1 hy.str.1 hr e
  ·cases e
 ·split at e
  ·obtain⟨q,e,hg,he,_,hb⟩:=IG (w:=w) hd hsz hx hy e
   rw [dF] at e;cases e
   refine seqd (hg _) (.same hr ?_ (iZ M q))
   rw [(hb .eql 0).1 rfl]
   simp [he]
  ·obtain⟨q,e,hg,he,_,hb⟩:=IG (w:=w) hd hsz hx hy e
   rw [dF] at e;cases e
   refine seqd (hg _) (.same hr ?_ (iZ M _))
   rw [(hb .neq 0).2 rfl rfl]
   simp [he]
  ·cases e
end
end Go.Vm
namespace Go.Vm
noncomputable section
variable{P:Program}{G:Nat}{M:Mp}{h h':Hp}{w:World}{r:V}
def Hy(c a b:V)(h:Hp):R V:=asBool c fun q=>match q with|true=>.ok a h|false=>.ok b h
def aP(x:V)(h:Hp):R V:=match x with
 | .fJ| .iw| .iR=>.bad
 | .func fn a b=>(match fn with| .method _=>.bad|_=>.ok (.func fn a b) h)
 |x=>.ok x h
def abH(n:Nat)(l:V):Option V:=
 Nat.rec (motive:=fun _=>V→Option V) (fun l=>match l with| .cons a _=>some a|_=>none) (fun _ ih l=>match l with| .cons _ t=>ih t|_=>none) n l
theorem UW(n:Nat):∀l:V,abH n l=l.list[n]?:=by
 induction n with
 |zero=>intro l;cases l<;>rfl
 |succ n ih=>intro l;cases l<;>first|exact ih _|rfl
def bM(n:Nat)(x:V)(h:Hp):R V:=match x with
 | .tuple l=>(match abH n l with|some v=>.ok v h|none=>.bad)
 |_=>.bad
def oUn(op:UnOp)(x:V)(h:Hp):R V:=match op with
 | .neg=>asInt x fun k n=>fZ k (mW k (Int.sub 0 n)) h
 | .xor=>asInt x fun k n=>fZ k (k.wrap (BitVec.ofInt k.bits (if k.signed then -1 else k.max)^^^BitVec.ofInt k.bits n).toNat) h
 | .not=>asBool x fun b=>cO (not b) h
 | .plus=>.bad
def dh(k:IntKind)(x:V)(h:Hp):R V:=asInt x fun _ n=>fZ k (mW k n) h
def oQ(x:V)(h:Hp):R V:=match x with| .str s=>.ok (.str s) h|_=>.bad
def Jy(t:TypeId)(x:V)(h:Hp):R V:=.ok (.iface t x) h
def Hz(fn:Fn)(f c:List V)(h:Hp):R V:=match D6 fn with|true=>.ok (.func fn (V.ofList f) (V.ofList c)) h|false=>.bad
def aN(off:Nat)(x:V)(h:Hp):R V:=iP x fun i o=>bQ (o+off) fun q=>.ok (.ptr i q) h
def Ad(sz:Nat)(x i:V)(h:Hp):R V:=iU i fun k=>match x with
 | .slice i o n _=>(match Nat.blt k n with|true=>bQ (o+k*sz) fun q=>.ok (.ptr i q) h|false=>.bad)
 |_=>.bad
def abE(len sz:Nat)(x i:V)(h:Hp):R V:=iU i fun k=>iP x fun i o=>
 match Nat.blt k len with|true=>bQ (o+k*sz) fun q=>.ok (.ptr i q) h|false=>.bad
def vH(n:Nat)(l:List Nat):Option Nat:=
 Nat.rec (motive:=fun _=>List Nat→Option Nat) (fun l=>List.casesOn l none (fun a _=>some a)) (fun _ ih l=>List.casesOn l none (fun _ t=>ih t)) n l
theorem qO(n:Nat):∀l:List Nat,vH n l=l[n]?:=by
 induction n with
 |zero=>intro l;cases l<;>rfl
 |succ n ih=>intro l;cases l with
  |nil=>rfl
  |cons a t=>exact(ih t).trans (by simp)
def bU(x i:V)(h:Hp):R V:=iU i fun k=>match x with
 | .str s=>(match vH k s with|some b=>.ok (.int .u8 (.ofNat b)) h|none=>.bad)
 |_=>.bad
def abA(ag:Bool)(sz off:Nat)(x:V)(h:Hp):R V:=match x with
 | .agg l=>(match ag with
  |false=>(match abH off l with|some v=>.ok v h|none=>.bad)
  |true=>(match fP sz (eY off l.list) with|some vs=>.ok (.agg (V.ofList vs)) h|none=>.bad))
 |_=>.bad
theorem TS{x:V}{a:Value}(hx:Rp M x a)(e:aP x h=.ok r h'):r=x∧h'=h∧
  (∀ρ o op,o.op=.nilCheck op→ρ op=a→(execOp ρ o).run P w=.ok (.value a) w):=by
 have fin:∀{x:V} {a:Value},(R.ok x h:R V)=.ok r h'→(∀ρ o op,o.op=Op.nilCheck op→ρ op=a→(execOp ρ o).run P w=.ok (.value a) w)→
   r=x∧h'=h∧(∀ρ o op,o.op=.nilCheck op→ρ op=a→(execOp ρ o).run P w=.ok (.value a) w):=by
  intro x a e hh;cases e;exact⟨rfl,rfl,hh⟩
 cases x with
 |fJ=>cases e
 |iw=>cases e
 |iR=>cases e
 |func fn p q=>
  obtain⟨g,_,_,hg,_,_,rfl⟩:=hx.func
  cases fn with
  |method n=>cases e
  |yield k=>obtain⟨L,_,rfl⟩:=hg;exact fin e (fun ρ o op ho hρ=>by simp only [execOp,ho,hρ];rfl)
  |func f=>obtain rfl:g=.func f:=hg;exact fin e (fun ρ o op ho hρ=>by simp only [execOp,ho,hρ];rfl)
  |methodOf t n=>obtain rfl:g=.methodOf t n:=hg;exact fin e (fun ρ o op ho hρ=>by simp only [execOp,ho,hρ];rfl)
  |via t pa f b=>obtain rfl:g=.via t pa f b:=hg;exact fin e (fun ρ o op ho hρ=>by simp only [execOp,ho,hρ];rfl)
 |nil=>cases hx.1
 |cons a b=>cases hx.1
 |bool b=>cases hx.bool;exact fin e (fun ρ o op ho hρ=>by simp only [execOp,ho,hρ];rfl)
 |int k n=>cases hx.int;exact fin e (fun ρ o op ho hρ=>by simp only [execOp,ho,hρ];rfl)
 |str s=>cases hx.str.2;exact fin e (fun ρ o op ho hρ=>by simp only [execOp,ho,hρ];rfl)
 |ptr i o=>obtain⟨L,_,rfl⟩:=hx.ptr;exact fin e (fun ρ o op ho hρ=>by simp only [execOp,ho,hρ];rfl)
 |slice i o n k=>obtain⟨L,m,_,_,rfl⟩:=hx.slice;exact fin e (fun ρ o op ho hρ=>by simp only [execOp,ho,hρ];rfl)
 |af=>cases hx.af;exact fin e (fun ρ o op ho hρ=>by simp only [execOp,ho,hρ];rfl)
 |emp=>obtain⟨_,_,rfl⟩:=hx.emp;exact fin e (fun ρ o op ho hρ=>by simp only [execOp,ho,hρ];rfl)
 |map i=>obtain⟨L,_,rfl⟩:=hx.map;exact fin e (fun ρ o op ho hρ=>by simp only [execOp,ho,hρ];rfl)
 |gG=>cases hx.gG;exact fin e (fun ρ o op ho hρ=>by simp only [execOp,ho,hρ];rfl)
 |iface t v=>obtain⟨_,_,rfl⟩:=hx.iface;exact fin e (fun ρ o op ho hρ=>by simp only [execOp,ho,hρ];rfl)
 |agg l=>obtain⟨_,_,_,rfl⟩:=hx.agg;exact fin e (fun ρ o op ho hρ=>by simp only [execOp,ho,hρ];rfl)
 |tuple l=>obtain⟨_,_,rfl⟩:=hx.tuple;exact fin e (fun ρ o op ho hρ=>by simp only [execOp,ho,hρ];rfl)
theorem acB{n:Nat}{x:V}{a:Value}(hr:Rel G M h w)(hx:Rp M x a)(e:bM n x h=.ok r h'):Good P G M h w (Instr.extract a n) r h':=by
 unfold bM at e
 split at e
 ·obtain⟨l,hl,rfl⟩:=hx.tuple
  split at e
  ·rename_i v hv
   cases e
   rw [UW] at hv
   obtain⟨y,hy,hrp⟩:=hl.get hv
   exact .same hr (c:=y) (by simp [Instr.extract,hy]) hrp
  ·cases e
 ·cases e
theorem aIp{op:UnOp}{x:V}{a:Value}(hr:Rel G M h w)(hx:Rp M x a)(e:oUn op x h=.ok r h'):Good P G M h w (Op.unary op a) r h':=by
 cases op
 case neg=>
  obtain⟨k,n,rfl,e1⟩:=kW e
  cases hx.int
  rw [fD,oI] at e1;cases e1
  exact .same hr (by simp [Op.unary,Op.intArith,show Int.sub 0 n=0 - n from rfl]) (dK M k _)
 case xor=>
  obtain⟨k,n,rfl,e1⟩:=kW e
  cases hx.int
  rw [fD] at e1;cases e1
  exact .same hr (by simp [Op.unary,Op.intBits]) (dK M k _)
 case not=>
  obtain⟨b,rfl,e1⟩:=Gg e
  cases hx.bool
  rw [dF] at e1;cases e1
  exact .same hr (by simp [Op.unary]) (iZ M _)
 case plus=>cases e
theorem agz{s d:TypeId}{ds:TypeDesc}{k:IntKind}(hs:P.underlying s=some ds)(hd:P.underlying d=some (.int k)){x:V}{a:Value}(hr:Rel G M h w)(hx:Rp M x a)(e:dh k x h=.ok r h'):
  Good P G M h w (convert s d a) r h':=by
 obtain⟨k',n,rfl,e1⟩:=kW e
 cases hx.int
 rw [fD,oI] at e1;cases e1
 exact .same hr (by simp [convert,run_underlying hs,run_underlying hd,Conv.intToInt]) (dK M k _)
theorem agy{s d:TypeId}{ds:TypeDesc}(hs:P.underlying s=some ds)(hd:P.underlying d=some .string){x:V}{a:Value}(hr:Rel G M h w)(hx:Rp M x a)(e:oQ x h=.ok r h'):
  Good P G M h w (convert s d a) r h':=by
 unfold oQ at e
 split at e
 ·cases hx.str.2
  cases e
  refine .same hr (c:=.string (bts _)) ?_ hx
  simp only [convert,Sem.run_bind,run_underlying hs,run_underlying hd,Result.andThen_ok]
  cases ds<;>rfl
 ·cases e
theorem anh{t:TypeId}{d:TypeDesc}(hd:P.underlying t=some d)(hni:∀ms,d≠ .interface ms){x:V}{a:Value}(hr:Rel G M h w)(hx:Rp M x a)(e:Jy t x h=.ok r h'):
  Good P G M h w (Instr.makeInterface t a) r h':=by
 cases e
 refine .same hr (c:=.iface t a) ?_ ⟨rfl,a,hx.1,hx.2,rfl⟩
 simp only [Instr.makeInterface,Sem.run_bind,run_underlying hd,Result.andThen_ok]
 cases d<;>first|rfl|exact absurd rfl (hni _)
theorem ayh{fn:Fn}{f c:List V}{x y:List Value}(hr:Rel G M h w)(hf:aX M f x)(hc:aX M c y)(e:Hz fn f c h=.ok r h'):
  Good P G M h w (Instr.makeFunc fn x.toArray y.toArray) r h':=by
 unfold Hz at e
 split at e
 ·rename_i hp
  cases e
  exact .same hr (c:=.func fn x.toArray y.toArray) rfl ⟨rfl,fn,x,y,.plain M hp,⟨V.jX f,V.jX c⟩,hf.to,hc.to,rfl⟩
 ·cases e
theorem Loc.nI(L:Loc)(o n:Nat):(L.at o).add n=L.at (o+n):=by
 unfold Loc.at Addr.add
 split
 ·simp_all
 ·simp [Nat.add_assoc]
theorem KE{t:TypeId}{fs:Array Field}{n:Nat}{f:Field}{ti:TypeInfo}(ht:P.underlying t=some (.struct fs))(hf:fs[n]?=some f)(hti:P.info? f.type=some ti)(hz:ti.size≠0)
  {x:V} {a:Value} (hr:Rel G M h w) (hx:Rp M x a) (e:aN f.offset x h=.ok r h'):Good P G M h w (Instr.fieldAt t a n) r h':=by
 obtain⟨i,o,rfl,e1⟩:=fO e
 obtain⟨L,hL,rfl⟩:=hx.ptr
 rw [bf] at e1
 cases e1
 refine .same hr (c:=.pointer (some (L.at (o+f.offset)))) ?_ (jO hL _)
 simp [Instr.fieldAt,run_underlying ht,hf,Instr.sureAddr,fieldPlace,sizeOf,typeInfo,hti,hz,Loc.nI]
theorem ayb{t el:TypeId}{ti:TypeInfo}(ht:P.underlying t=some (.slice el))(hti:P.info? el=some ti){x i:V}{a b:Value}(hr:Rel G M h w)(hx:Rp M x a)(hi:Rp M i b)(e:Ad ti.size x i h=.ok r h'):
  Good P G M h w (Instr.indexAt t a b) r h':=by
 obtain⟨k,n,rfl,e1⟩:=kz e
 clear e
 cases hi.int
 have e:=e1
 clear e1
 split at e
 ·rename_i i o len cap
  obtain⟨L,m,hL,_,rfl⟩:=hx.slice
  split at e
  ·rename_i hlt
   rw [bf] at e
   cases e
   have hlt':n<len:=by simpa [Nat.blt_eq] using hlt
   refine .same hr (c:=.pointer (some (L.at (o+n*ti.size)))) ?_ (jO hL _)
   simp [Instr.indexAt,asIntOf,run_underlying ht,hlt',sizeOf,typeInfo,hti,Loc.nI]
  ·cases e
 ·cases e
theorem aye{t el:TypeId}{len:Nat}{ti:TypeInfo}(ht:P.underlying t=some (.array len el))(hti:P.info? el=some ti){x i:V}{a b:Value}(hr:Rel G M h w)(hx:Rp M x a)(hi:Rp M i b)(e:abE len ti.size x i h=.ok r h'):
  Good P G M h w (Instr.indexAt t a b) r h':=by
 obtain⟨k,n,rfl,e1⟩:=kz e
 clear e
 cases hi.int
 obtain⟨i,o,rfl,e⟩:=fO e1
 clear e1
 obtain⟨L,hL,rfl⟩:=hx.ptr
 split at e
 ·rename_i hlt
  rw [bf] at e
  cases e
  have hlt':n<len:=by simpa [Nat.blt_eq] using hlt
  refine .same hr (c:=.pointer (some (L.at (o+n*ti.size)))) ?_ (jO hL _)
  simp [Instr.indexAt,asIntOf,run_underlying ht,Instr.sureAddr,hlt',sizeOf,typeInfo,hti,Loc.nI]
 ·cases e
theorem ajR{t:TypeId}(ht:P.underlying t=some .string){x i:V}{a b:Value}(hr:Rel G M h w)(hx:Rp M x a)(hi:Rp M i b)(e:bU x i h=.ok r h'):
  Good P G M h w (Instr.index t a b) r h':=by
 obtain⟨k,n,rfl,e1⟩:=kz e
 clear e
 cases hi.int
 have e:=e1
 clear e1
 split at e
 ·rename_i s
  obtain⟨hs,rfl⟩:=hx.str
  split at e
  ·rename_i c hc
   cases e
   rw [qO] at hc
   have hb:(bts s)[n]?=some (UInt8.ofNat c):=by
    have hlt:n<s.length:=(List.getElem?_eq_some_iff.1 hc).1
    have:(bts s).data[n]?=some (UInt8.ofNat c):=by simp [bts,hc]
    rw [getElem?_pos (bts s) n (by rw [gW];exact hlt)]
    have h2:=(Array.getElem?_eq_some_iff.1 this).2
    exact congrArg some h2
   have hcl:=oJ (hs c (List.mem_of_getElem? hc))
   refine .same hr (c:=.int .u8 (.ofNat c)) ?_ (dK M _ _)
   simp [Instr.index,asIntOf,run_underlying ht,hb,hcl]
  ·cases e
 ·cases e
end
end Go.Vm
