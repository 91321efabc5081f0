/- Lemmas. No conditions. -/
import Derived.Test.YtpgppmioigacoaaGreatDoorFAF
import Derived.Defers
import Derived.Laws.LoneSync
import Derived.Recover
import Derived.ProofKit
import Derived.OpenShut
import Derived.ShutString
import Derived.ChangeOld
import Derived.Below
set_option linter.all false
open Nat renaming eq_of_beq_eq_true→a!,beq→g!,le_refl→j!,ne_of_beq_eq_false→u!,le_of_ble_eq_true→v!,blt_eq→A!,blt→J!
open Go.World renaming putObj_heap_other→b!,putObj_heap_same→r!,alloc_heap_new→t!,cell?→H!
open Array renaming getElem?_eq_some_iff→c!,getD_eq_getD_getElem?→h!,getElem?_eq_getElem→i!,replicate→k!,getElem?_push→n!,size_setIfInBounds→p!
open Bool renaming and_eq_true→d!,not_eq_true'→C!
open List renaming range'→e!,all_eq_true→o!,filterMap_cons_some→q!,mem_singleton→y!,range'_succ→D!,mem_range'→E!,map_cons→G!
open Go.Region renaming wanted→l!
noncomputable section
open Go.ChangeShapes Go.WideShapes Go.ChangeAt Go.RowKit
namespace Go.Vm
section
variable{G N:Nat}{M:Mp}{h:Hp}{w:World}{keep:Nat->Bool}
abbrev DV:=FuncId×List V×List V
abbrev DS:=List DV
inductive OutD where
 |nor (fr:F) (h:Hp) (ds:DS)
 |ret (fr:F) (h:Hp) (ds:DS)
 |bad
def ah4(fr:F):List Operand->Option (List V)
 | []=>some []
 |x::l=>(match x with
  | .tmp t=>(match fr.get (Pos.of t) with|some v=>(match ah4 fr l with|some vs=>some (v::vs)|none=>none)|none=>none)
  | .const c=>(match const c with|some v=>(match ah4 fr l with|some vs=>some (v::vs)|none=>none)|none=>none)
  | .func f=>(match ah4 fr l with|some vs=>some (.func (.func f) .nil .nil::vs)|none=>none)
  | .global _=>none)
def aK2(o:Oper):Bool:=match o.op with| .defer _=>true|_=>false
def defers:Code->Bool
 | .region _ ops _=>ops.toList.any aK2
 | .seq a b=>defers a||defers b
 | .cond _ a b=>defers a||defers b
 |_=>false
def aaO{Df:List Deferred}{fr:F}{a:Act}(at_:At keep G N Df M fr h a w):∀{l:List Operand} {vs:List V},ah4 fr l=some vs->cO M vs (l.map a.eval)
 | [],vs,b=>by cases b;rfl
 |x::l,vs,b=>by
  simp only[ah4]at b;split at b
  ·rename_i t;split at b
   ·rename_i v e;split at b
    ·rename_i g d;cases b;exact⟨_,_,(at_.fr t v e).2,aaO at_ d,rfl⟩
    ·cases b
   ·cases b
  ·rename_i c;split at b
   ·rename_i v e;split at b
    ·rename_i g d;cases b;exact⟨_,_,UL e M,aaO at_ d,rfl⟩
    ·cases b
   ·cases b
  ·rename_i f;split at b
   ·rename_i g d;cases b;exact⟨_,_,⟨rfl,.func f,[],[],rfl,⟨rfl,rfl⟩,rfl,rfl,rfl⟩,aaO at_ d,rfl⟩
   ·cases b
  ·cases b
end
section
variable{P:Program}{G:Nat}{M:Mp}{h h':Hp}{w:World}{keep:Nat->Bool}{e:FuncId->Option Fun}{r:V}
def aOE(P:Program)(G:Nat)(f:FuncId)(F:Fun):Prop:=
 ∀(args:List V) (h:Hp) (r:V) (h':Hp) (M:Mp) (w:World) (cargs:List Value),F args h=.ok r h'->Rel G M h w->cO M args cargs->
  (callFunc f cargs.toArray).run P w=.ok (.enter f cargs.toArray) w/\
  CallsD P f cargs.toArray .returning w λe u w'=>u=.returning/\∃c,e=.returned c/\Post G M h w r h' c w'
def aHn(P:Program)(G:Nat)(f:FuncId)(F:Fun):Prop:=
 ∃fn c,P.funcs[f]?=some fn/\fn.body=some c/\(∀args w,(callFunc f args).run P w=.ok (.enter f args) w)/\
 ∀(args:List V) (h:Hp) (r:V) (h':Hp) (M:Mp) (w:World) (cargs:List Value),F args h=.ok r h'->Rel G M h w->cO M args cargs->
  c.wp P (bodyPost P fn λe w'=>∃c,e=.returned c/\Post G M h w r h' c w') {tmps:=cargs.toArray++k! (fn.ntmps - cargs.toArray.size) undef,defers:= []} w
def aHn.deferred{f:FuncId}{F:Fun}(hb:aHn P G f F):aOE P G f F:=by
 obtain⟨fn,c,a,b,d,g⟩:=hb;intro args h r h' M w cargs e j i;exact⟨d _ _,callsD_of_wp a b (g args h r h' M w cargs e j i)⟩
def afr{f:FuncId}{fn:Func}{c:Code}(b:P.funcs[f]?=some fn)(hn:(fn.name== "runtime.NumGoroutine")=false)(hb:fn.body=some c)(args:Array Value)(w:World):
  (callFunc f args).run P w=.ok (.enter f args) w:=by
 unfold callFunc;rw[Sem.run_bind,run_program];have a:¬fn.name= "runtime.NumGoroutine" :=by simpa using hn
 simp[b,a,hb]
def aAG{fn:Func}{args:List V}{cargs:List Value}(l:Rel G M h w)(f:cO M args cargs)(k:args.length<=fn.ntmps):
  At keep G fn.ntmps [] M (FK keep 0 args .nil) h {tmps:=cargs.toArray++k! (fn.ntmps - cargs.toArray.size) undef,defers:= []} w:=by
 have g:=f.length;refine⟨l,aa7 keep _ args 0 _ (λj v hj=>?_) (λt v i=>by rw[T.get_nil]at i;cases i),by simp;omega,rfl⟩;obtain⟨x,d,c⟩:=f.get hj;have b:j<cargs.length:=by
  rcases Nat.lt_or_ge j cargs.length with a|a
  ·exact a
  ·rw[List.getElem?_eq_none a]at d;cases d
 have:(cargs.toArray++k! (fn.ntmps - cargs.toArray.size) undef).getD (0+j) undef=x:=by
  rw[h!,Array.getElem?_append_left (by simpa using b)];simp[d]
 simp only[this];exact c
end
section
variable{P:Program}{G:Nat}
def levels(base:FuncId->Option Fun)(st:(FuncId->Option Fun)->FuncId->Option Fun):Nat->FuncId->Option Fun
 |0=>base
 |n+1=>st (levels base st n)
def afK{base:FuncId->Option Fun}{st:(FuncId->Option Fun)->FuncId->Option Fun}(hb:∀f F,base f=some F->aG P G f F)
  (a:∀e,(∀f F,e f=some F->aG P G f F)->∀f F,st e f=some F->aG P G f F):∀n f F,levels base st n f=some F->aG P G f F
 |0=>hb
 |n+1=>a _ (afK hb a n)
def auf(e:FuncId->Option Fun)(f:FuncId):Fun:=match e f with
 |some F=>F
 |none=>λ_ _=>.bad
def avc{e:FuncId->Option Fun}(a:∀f F,e f=some F->aG P G f F)(f:FuncId):aG P G f (auf e f):=by
 unfold auf;cases h:e f with
 |some F=>exact a f F h
 |none=>intro args h r h' M w cargs e;cases e
end
section
variable{P:Program}{G:Nat}{M N:Mp}{h:Hp}{w:World}
def Seen.row(S:Seen G M h w){blk off:Nat}{cs:List V}(r:cs≠ [])(B:∀k v,cs[k]?=some v->∃x,w.cell? ⟨blk,off+k,none⟩=some x/\scalar x=true/\Rp M v x):
  ∃sz,Seen G (M.add h.next ⟨blk,off,sz⟩) (h.new (.cells .ro cs)) w/\M.le (M.add h.next ⟨blk,off,sz⟩):=by
 have m:M h.next=none:=S.rel.fresh _ (j! _);obtain⟨v0,u⟩:∃v,cs[0]?=some v:=by
  cases cs with
  |nil=>exact absurd rfl r
  |cons v l=>exact⟨v,rfl⟩
 obtain⟨x0,n,-,-⟩:=B 0 v0 u;obtain⟨c,el,fr,hb⟩:∃c el fr,w.heap[blk]?=some (.cells c el fr):=by
  unfold H! at n;split at n
  ·rename_i c el fr hb;exact⟨c,el,fr,hb⟩
  ·cases n
 have a:=Mp.UE m ⟨blk,off,c.size⟩;refine⟨c.size,⟨⟨λi p hi=>?_,λi hi=>?_,λi j p q L K hn hi hj C y Q=>?_,λg E=>?_⟩,λi o hi=>?_⟩,a⟩
 ·by_cases e:i=h.next
  ·subst e;rw[h.qM]at hi;cases hi;refine⟨_,M.fF _ _,c,el,fr,hb,rfl,λk v I=>?_,trivial⟩;obtain⟨x,J,t,s⟩:=B k v I;refine⟨x,?_,s.mono a,t⟩;simpa[H!,hb]using J
  ·rw[h.jD e]at hi;obtain⟨L,y,s⟩:=S.rel.ob i p hi;exact⟨L,by rw[M.gI e];exact y,s.mono a⟩
 ·have t:(h.new (.cells .ro cs)).next.nat=h.next.nat+1:=Pos.fD _;rw[t]at hi;have e:i≠h.next:=λe=>by rw[e]at hi;omega
  rw[M.gI e];exact S.rel.fresh i (by omega)
 ·have D:i≠h.next:=by
   intro e;subst e;rw[h.qM]at hi;cases hi;cases C
  rw[h.jD D]at hi;have:=S.un i p hi;rw[C]at this;cases this
 ·obtain⟨z,O⟩:=S.rel.gl g E;exact⟨z,a _ _ O⟩
 ·by_cases e:i=h.next
  ·subst e;rw[h.qM]at hi;cases hi;rfl
  ·rw[h.jD e]at hi;exact S.un i o hi
variable{H:Type}{f:TypeId×Value->H}{base:Nat}{b:Nat->Bool}{d:Bool}
def aES{t e n g:Nat}{x:DataW H×List MemPlace}{cs:List Value}(ht:P.underlying t=some (.slice e))(hn:P.cellsOf e=n)(ac:0<n){Q:List V->Prop}
  (rd:∀g cs x,DataW.trod f P w base b d g e cs=some x->cs.length=n->∃vs,vs.length=n/\Q vs/\(∀N,cO N vs cs)/\∀y∈cs,scalar y=true)
  (hd:DataW.trod f P w base b d g t cs=some x) (S:Seen G M h w):
  ∃(c:Value) (v:V) (M':Mp) (h':Hp) (els:List (List V)),cs= [c]/\Rp M' v c/\Seen G M' h' w/\M.le M'/\(∀vs∈els,Q vs/\vs.length=n)/\els.length<=9223372036854775807/\
   ((v=.aP/\h'=h/\els= [])\/(v=.emp/\h'=h/\els= [])\/(∃cap,v=.slice h.next 0 els.length (.kn cap)/\h'=h.new (.cells .ro els.flatten)/\0<els.length/\els.length<=cap)):=by
 rcases DataW.trod_slice ht hd with⟨rfl,rfl⟩|⟨a,len,cap,U,rest,m,rfl,rfl,rfl,hb,hl,hm,ai,X,-,-⟩
 ·exact⟨_,.aP,M,h,[],rfl,⟨rfl,rfl⟩,S,Mp.le_refl _,λ_ h=>(by cases h),by simp,.inl ⟨rfl,rfl,rfl⟩⟩
 ·
  have each:∀i,i<len->∃vs,vs.length=n/\Q vs/\∀j v,vs[j]?=some v->∃x,w.cell? (a.add (i*n+j))=some x/\scalar x=true/\∀N,Rp N v x:=λi hi=>by
   have q:=X i hi;rw[hn,List.getElem?_eq_getElem (by omega),Option.bind_eq_some_iff]at q;obtain⟨O,z,r⟩:=q;obtain⟨-,B,W⟩:=World.cells?_some z;obtain⟨vs,af,ag,E,ah⟩:=rd m O _ r B;refine⟨vs,af,ag,λj v hj=>?_⟩;have Z:j<n:=by
    have:=(List.getElem?_eq_some_iff.1 hj).1;omega
   have h5:(a.add (i*n)).add j=a.add (i*n+j):=by
    generalize i*n=p;by_cases e1:p=0<;>by_cases e2:j=0<;>simp[Addr.add,e1,e2,Nat.add_assoc]
   have s:=W j Z;rw[h5]at s;obtain⟨x,u,hr⟩:=(E M).get hj;refine⟨x,by rw[s,u],ah x (List.mem_of_getElem? u),λN=>?_⟩;obtain⟨x',I,ad⟩:=(E N).get hj;rw[u]at I;cases I;exact ad
  by_cases h0:len=0
  ·subst h0;exact⟨_,.emp,M,h,[],rfl,⟨rfl,a,cap,rfl⟩,S,Mp.le_refl _,λ_ h=>(by cases h),by simp,.inr (.inl ⟨rfl,rfl,rfl⟩)⟩
  ·
   have all:∀l,l<=len->∃els:List (List V),els.length=l/\(∀vs∈els,Q vs/\vs.length=n)/\els.flatten.length=l*n/\∀k v,els.flatten[k]?=some v->∃x,w.cell? (a.add k)=some x/\scalar x=true/\∀N,Rp N v x:=by
    intro l;induction l with
    |zero=>intro _;exact⟨[],rfl,λ_ h=>(by cases h),by simp,λk v o=>by simp at o⟩
    |succ l ih=>
     intro B;obtain⟨els,q,z,r,s⟩:=ih (by omega);obtain⟨vs,g1,g2,g3⟩:=each l (by omega);refine⟨els++ [vs],by simp[q],λus D=>?_,by simp[r,g1,Nat.succ_mul],λk v o=>?_⟩
     ·rcases List.mem_append.1 D with D|D
      ·exact z us D
      ·rw[y!.1 D];exact⟨g2,g1⟩
     ·rw[List.flatten_append,List.getElem?_append]at o;split at o
      ·exact s k v o
      ·rename_i Y;simp only[List.flatten_cons,List.flatten_nil,List.append_nil]at o;rw[r]at o Y;have:=g3 (k - l*n) v o;rwa[show l*n+(k - l*n)=k from by omega]at this
   obtain⟨els,q,z,r,s⟩:=all len (j! _);have C:els.flatten≠ []:=by
    intro e;rw[e]at r;have:0<len*n:=Nat.mul_pos (by omega) ac;simp at r;omega
   obtain⟨J,K,L⟩:=a;have has:L=none:=by
    obtain⟨v0,ae⟩:∃v,els.flatten[0]?=some v:=by
     cases hf:els.flatten with
     |nil=>exact absurd hf C
     |cons v l=>exact⟨v,rfl⟩
    obtain⟨x,u,-,-⟩:=s 0 v0 ae;simpa[Addr.add]using World.cell?_spot u
   subst has;obtain⟨sz,S',aa⟩:=S.row (blk:=J) (off:=K) C λk v o=>by
    obtain⟨x,u,hs,hr⟩:=s k v o;have ea:(Addr.mk J K none).add k=⟨J,K+k,none⟩:=by by_cases e1:k=0<;>simp[Addr.add,e1]
    exact⟨x,by rw[<-ea];exact u,hs,hr M⟩
   refine⟨_,.slice h.next 0 len (.kn cap),_,_,els,rfl,⟨rfl,_,cap,M.fF _ _,⟨rfl,hl⟩,rfl⟩,S',aa,z,by rw[q];unfold maxLen at hm;omega,.inr (.inr ⟨cap,by rw[q],rfl,by omega,by omega⟩)⟩
def aOU{e:TypeId}{k:IntKind}(c:P.underlying e=some (.int k)):∀a cs x,DataW.trod f P w base b d a e cs=some x->cs.length=1->∃vs:List V,vs.length=1/\(∃z,vs= [.int k z]/\(Lit.int k z).wf=true)/\(∀N,cO N vs cs)/\∀y∈cs,scalar y=true:=by
 intro a cs x i _;obtain⟨z,rfl,-,g⟩:=DataW.trod_int c i;exact⟨[.int k z],rfl,⟨z,rfl,g⟩,λN=>⟨_,[],gU N k z,rfl,rfl⟩,λy j=>by rw[y!.1 j];rfl⟩
end
def aIz:Fn->Fn->Bool
 | .func g,x=>(match x with| .func k=>g! g k|_=>false)
 |_,_=>false
def aLh{f g:Fn}(h:aIz f g=true):f=g:=by
 unfold aIz at h;split at h
 ·split at h
  ·rw[a! h]
  ·cases h
 ·cases h
def kL:V->V->Bool
 | .func f a b,x=>(match x with| .func g c d=>(match aIz f g with|true=>(match kL a c with|true=>kL b d|false=>false)|false=>false)|_=>false)
 | .agg l,x=>(match x with| .agg k=>kL l k|_=>false)
 | .tuple l,x=>(match x with| .tuple k=>kL l k|_=>false)
 | .iface t v,x=>(match x with| .iface u w=>(match g! t u with|true=>kL v w|false=>false)|_=>false)
 | .cons a b,x=>(match x with| .cons c d=>(match kL a c with|true=>kL b d|false=>false)|_=>false)
 |v,x=>eqV v x
def vX:∀(a b:V),kL a b=true->a=b
 | .func f a b,x,h=>by
  simp only[kL]at h;split at h
  ·split at h
   ·rename_i e1;split at h
    ·rename_i e2;rw[aLh e1,vX a _ e2,vX b _ h]
    ·cases h
   ·cases h
  ·cases h
 | .agg l,x,h=>by
  simp only[kL]at h;split at h
  ·rw[vX l _ h]
  ·cases h
 | .tuple l,x,h=>by
  simp only[kL]at h;split at h
  ·rw[vX l _ h]
  ·cases h
 | .iface t v,x,h=>by
  simp only[kL]at h;split at h
  ·split at h
   ·rename_i e1;rw[a! e1,vX v _ h]
   ·cases h
  ·cases h
 | .cons a b,x,h=>by
  simp only[kL]at h;split at h
  ·split at h
   ·rename_i e2;rw[vX a _ e2,vX b _ h]
   ·cases h
  ·cases h
 | .bool _,x,h=>by unfold kL at h;exact sV h
 | .int _ _,x,h=>by unfold kL at h;exact sV h
 | .str _,x,h=>by unfold kL at h;exact sV h
 | .ptr _ _,x,h=>by unfold kL at h;exact sV h
 | .dn,x,h=>by unfold kL at h;exact sV h
 | .slice _ _ _ _,x,h=>by unfold kL at h;exact sV h
 | .aP,x,h=>by unfold kL at h;exact sV h
 | .emp,x,h=>by unfold kL at h;exact sV h
 | .map _,x,h=>by unfold kL at h;exact sV h
 | .jT,x,h=>by unfold kL at h;exact sV h
 | .gV,x,h=>by unfold kL at h;exact sV h
 | .oL,x,h=>by unfold kL at h;exact sV h
 | .nil,x,h=>by unfold kL at h;exact sV h
def eqL:List V->List V->Bool
 | [],x=>(match x with| []=>true|_::_=>false)
 |a::l,x=>(match x with| []=>false|b::k=>(match kL a b with|true=>eqL l k|false=>false))
def afR:∀{l k:List V},eqL l k=true->l=k
 | [],k,h=>by cases k with
  |nil=>rfl
  |cons a k=>cases h
 |a::l,k,h=>by
  cases k with
  |nil=>cases h
  |cons b k=>
   simp only[eqL]at h;split at h
   ·rename_i e;rw[vX _ _ e,afR h]
   ·cases h
def aDA:List (V×V)->List (V×V)->Bool
 | [],x=>(match x with| []=>true|_::_=>false)
 |a::l,x=>(match x with| []=>false|b::k=>(match kL a.1 b.1,kL a.2 b.2 with|true,true=>aDA l k|_,_=>false))
def aAM:∀{l k:List (V×V)},aDA l k=true->l=k
 | [],k,h=>by cases k with
  |nil=>rfl
  |cons a k=>cases h
 |a::l,k,h=>by
  cases k with
  |nil=>cases h
  |cons b k=>
   simp only[aDA]at h;split at h
   ·rename_i e1 e2;obtain⟨a1,a2⟩:=a;obtain⟨b1,b2⟩:=b;have e1:=vX _ _ e1;have e2:=vX _ _ e2;simp only at e1 e2;rw[e1,e2,aAM h]
   ·cases h
def aIx:Wr->Wr->Bool
 | .ro,x=>(match x with| .ro=>true| .rw _ _=>false)
 | .rw t f,x=>(match x with| .ro=>false| .rw u g=>(match g! t u with|true=>(match f,g with|true,true=>true|false,false=>true|true,false=>false|false,true=>false)|false=>false))
def aLf{a b:Wr}(h:aIx a b=true):a=b:=by
 cases a with
 |ro=>cases b with
  |ro=>rfl
  |rw t f=>cases h
 |rw t f=>cases b with
  |ro=>cases h
  |rw u g=>
   simp only[aIx]at h;split at h
   ·rename_i e;rw[a! e];cases f<;>cases g<;>first|rfl|cases h
   ·cases h
def QD(a b:Ob):Bool:=match a with
 | .cells w l=>(match b with| .cells u k=>(match aIx w u with|true=>eqL l k|false=>false)|_=>false)
 | .bytes l=>(match b with| .bytes k=>eqL l k|_=>false)
 | .map l=>(match b with| .map k=>aDA l k|_=>false)
 |_=>false
def aqw{a b:Ob}(h:QD a b=true):a=b:=by
 unfold QD at h;split at h
 ·split at h
  ·split at h
   ·rename_i e;rw[aLf e,afR h]
   ·cases h
  ·cases h
 ·split at h
  ·rw[afR h]
  ·cases h
 ·split at h
  ·rw[aAM h]
  ·cases h
 ·cases h
def eqT:T Ob->T Ob->Bool
 | .nil,x=>(match x with| .nil=>true| .node _ _ _=>false)
 | .node v l r,x=>(match x with
  | .nil=>false
  | .node u c d=>(match v with
   |none=>(match u with|none=>(match eqT l c with|true=>eqT r d|false=>false)|some _=>false)
   |some a=>(match u with|none=>false|some b=>(match QD a b with|true=>(match eqT l c with|true=>eqT r d|false=>false)|false=>false))))
section
variable{P:Program}{G:Nat}
def awt(c:Nat):List Nat->Nat
 | []=>0
 |d::l=>(match g! d c with|true=>Nat.succ (awt c l)|false=>awt c l)
def aAS{c:Nat}(a:c<256):∀{l:List Nat},(∀b∈l,b<256)->awt c l=Go.Lib.countByte (l.map UInt8.ofNat) (UInt8.ofNat c)
 | [],_=>rfl
 |d::l,h=>by
  have hd:=h d (by simp);have f:=aAS a (l:=l) λb hb=>h b (by simp[hb]);have e:(UInt8.ofNat d==UInt8.ofNat c)=g! d c:=by
   rw[Bool.eq_iff_iff];simp only[beq_iff_eq];exact⟨λh=>by rw[IU hd a h];exact Nat.beq_refl c,λh=>by rw[a! h]⟩
  unfold Go.Lib.countByte at f⊢;rw[G!,List.count_cons,e];simp only[awt];cases g! d c<;>simp[f]
def cntF:Fun:=λargs h=>match args with
 | [s,c]=>(match s with
  | .str l=>(match c with
   | .int k n=>(match g! (kix k) 4 with
    |true=>(match n with
     | .ofNat b=>(match J! b 256 with|true=>iM .i64 (.ofNat (awt b l)) h|false=>.bad)
     | .negSucc _=>.bad)
    |false=>.bad)
   |_=>.bad)
  |_=>.bad)
 |_=>.bad
def aLp{f:FuncId}{fn:Func}(v:P.funcs[f]?=some fn)(d:(fn.name== "runtime.NumGoroutine")=false)(hb:fn.body.isNone=true)(hn:Extern.findNext fn=none)(u:Extern.find fn=some Extern.BytealgCount.count):aG P G f cntF:=by
 intro args h r h' M w cargs e t a;unfold cntF at e;split at e
 ·rename_i s c;split at e
  ·rename_i l;split at e
   ·rename_i k n;split at e
    ·rename_i x;have p:k=.u8:=by cases k<;>first|rfl|cases x
     subst p;split at e
     ·rename_i b;split at e
      ·rename_i i;have j:b<256:=by simpa[A!]using i
       obtain⟨cs,B,o,⟨z,y,m,q,rfl⟩,rfl⟩:=a;rw[show y= [] from q];obtain⟨hl,rfl⟩:=o.str;have g:=m.int;subst g;rw[gZ]at e;cases e;rw[run_callFunc_extern v d hb hn u,Go.Lib.run_countString];simp only[Result.andThen,Opq];refine⟨M,?_,t,.refl t⟩;have e1:(bts l).data.toList=l.map UInt8.ofNat:=by simp[bts]
       have e2:((Int.ofNat b).toNat.toUInt8)=UInt8.ofNat b:=rfl;rw[e1,e2,<-aAS j hl];exact gU M _ _
      ·cases e
     ·cases e
    ·cases e
   ·cases e
  ·cases e
 ·cases e
end
section
variable{P:Program}{G N:Nat}{M M':Mp}{h h':Hp}{w w':World}{keep:Nat->Bool}{e:FuncId->Option Fun}
def Pos.OE(p:Pos):Pos.of p.nat=p:=Pos.yR (Pos.gG _)
def auk:Obj->Bool
 | .loop _=>true
 | .deferred _=>true
 |_=>false
def ku.hidden{L:Loc}{o:Ob}(d:ku M L w o){b:Obj}(hb:w.heap[L.blk]?=some b):auk b=false:=by
 cases o with
 |cells wr cs=>obtain⟨c,el,fr,a,_⟩:=d;rw[a]at hb;cases hb;rfl
 |map es=>obtain⟨en,f,a,_⟩:=d;rw[a]at hb;cases hb;rfl
 |iter s p=>rw[d.2]at hb;cases hb;rfl
 |bytes cs=>obtain⟨c,el,fr,a,_⟩:=d;rw[a]at hb;cases hb;rfl
def Rel.hidden(f:Rel G M h w){b:Nat}{ob:Obj}(hb:w.heap[b]?=some ob)(hh:auk ob=true){i:Pos}{o:Ob}{L:Loc}(hi:h.get i=some o)(c:M i=some L):L.blk≠b:=by
 intro e;subst e;obtain⟨g,a,d⟩:=f.ob i o hi;rw[c]at a;cases a;rw[d.hidden hb]at hh;cases hh
def Rel.kept(c:Rel G M h w)(x:Ext M h w M' h' w'){b:Nat}{ob:Obj}(hb:w.heap[b]?=some ob)(hh:auk ob=true):w'.heap[b]?=some ob:=by
 rw[x.same b (c!.1 hb).1 λi o L hi _ a=>c.hidden hb hh hi a];exact hb
def Rel.putObj(a:Rel G M h w){b:Nat}{ob:Obj}(hb:w.heap[b]?=some ob)(hh:auk ob=true)(o':Obj):Rel G M h (w.putObj b o'):=by
 refine⟨λi o hi=>?_,a.fresh,a.sep,a.gl⟩;obtain⟨L,c,d⟩:=a.ob i o hi;exact⟨L,c,d.of_block (b! (a.hidden hb hh hi c))⟩
def Rel.UN(a:Rel G M h w)(ob:Obj):Rel G M h (w.alloc ob):=by
 refine⟨λi o hi=>?_,a.fresh,a.sep,a.gl⟩;obtain⟨L,c,b⟩:=a.ob i o hi;refine⟨L,c,b.of_block ?_⟩;show(w.heap.push ob)[L.blk]?=w.heap[L.blk]?;rw[n!,if_neg (by have:=b.lt;omega)]
def Ext.putObj{d:Mp}{h0:Hp}{c:World}(x:Ext d h0 c M h w){b:Nat}(hb:c.heap.size<=b)(o':Obj):Ext d h0 c M h (w.putObj b o'):=
 ⟨x.le,x.next,x.os,x.tape,x.output,by rw[World.putObj_size];exact x.size,λk f a=>by rw[b! (by omega)];exact x.same k f a,x.own,x.old,x.all,x.none⟩
def Ext.UN{c:Mp}{h0:Hp}{b:World}(x:Ext c h0 b M h w)(ob:Obj):Ext c h0 b M h (w.alloc ob):=
 ⟨x.le,x.next,x.os,x.tape,x.output,by have:=x.size;show b.heap.size<=(w.heap.push ob).size;rw[Array.size_push];omega,λk d a=>by
  rw[<-x.same k d a];show(w.heap.push ob)[k]?=w.heap[k]?;have:=x.size;rw[n!,if_neg (by omega)],x.own,x.old,x.all,x.none⟩
def aFt(a:Rel G M h w)(L:Loc):Rel G (M.add h.next L) (aK 1 h) w/\Ext M h w (M.add h.next L) (aK 1 h) w:=by
 have f:M h.next=none:=a.fresh _ (j! _);have d:=Mp.UE f L;have k:(aK 1 h).next=h.next.succ:=rfl;have u:∀i,(aK 1 h).get i=h.get i:=λ_=>rfl;refine⟨⟨λi o hi=>?_,λi hi=>?_,λi j o p A B hn hi hj l c s=>?_,λg q=>?_⟩,⟨d,?_,rfl,rfl,rfl,j! _,λ_ _ _=>rfl,λi o A hi l c=>?_,λi _ hn=>hn,λi o A hi c=>?_,λi hi hn=>?_⟩⟩
 ·obtain⟨A,c,l⟩:=a.ob i o hi;exact⟨A,d _ _ c,l.mono d⟩
 ·rw[k,Pos.fD]at hi;rw[M.gI (λe=>by rw[e]at hi;omega)];exact a.fresh i (by omega)
 ·obtain⟨r,b,_⟩:=a.ob i o hi;obtain⟨t,m,_⟩:=a.ob j p hj;rw[M.gI (a.ne_next b)]at c;rw[M.gI (a.ne_next m)]at s;exact a.sep i j o p A B hn hi hj l c s
 ·obtain⟨n,hn⟩:=a.gl g q;exact⟨n,d _ _ hn⟩
 ·rw[k,Pos.fD];omega
 ·obtain⟨r,b,_⟩:=a.ob i o hi;rw[M.gI (a.ne_next b)]at c;exact .inr ⟨i,o,A,hi,l,c,rfl⟩
 ·obtain⟨r,b,_⟩:=a.ob i o hi;rw[M.gI (a.ne_next b)]at c;exact .inr ⟨i,o,A,hi,c,rfl⟩
 ·rw[M.gI (λe=>by rw[e]at hi;omega)];exact hn
inductive Jmp where
 |ret
 |ex (i:Nat)
def Jmp.code:Jmp->Code
 | .ret=>.ret
 | .ex i=>.exit i
inductive YR where
 |go (h:Hp)
 |stop (j:Jmp) (h:Hp)
 |bad
def xu(L:Loop)(p:Option Jmp):Loop:={L with state:=(match p with|none=>.ready|some _=>.done),pending:=p.map Jmp.code}
structure Rng where
 M:Mp
 h:Hp
 w:World
 kp:Pos
 l:Nat
 L:Loop
structure Goes (B:Rng) (p:Option Jmp) (M:Mp) (h:Hp) (w:World):Prop where
 ext:Ext B.M B.h B.w M h w
 ky:M B.kp=some ⟨B.l,0,0⟩
 hl:B.w.heap.size<B.l
 st:w.heap[B.l]?=some (.loop (xu B.L p))
 mrk:w.heap[B.w.heap.size]?=some (.deferred (some []))
def Goes.step{B:Rng}{p:Option Jmp}(g:Goes B p M h w)(a:Rel G M h w)(x:Ext M h w M' h' w'):Goes B p M' h' w':=
 ⟨g.ext.trans x,x.le _ _ g.ky,g.hl,a.kept x g.st rfl,a.kept x g.mrk rfl⟩
def am1(keep:Nat->Bool):List Nat->List V->F->Option F
 | [],x,fr=>(match x with| []=>some fr|_::_=>none)
 |t::ts,x,fr=>(match x with
  | []=>none
  |v::vs=>(match keep t with|true=>am1 keep ts vs (fr.set (some v) (Pos.of t))|false=>none))
def amG(keep:Nat->Bool)(ps:List Nat)(Da Db:F->Hp->Out)(fr:F)(args:List V)(h:Hp):YR:=match am1 keep ps args fr with
 |none=>.bad
 |some fr=>(match Da fr h with
  | .nor fr h=>(match Db fr h with
   | .nor _ h=>.go h
   | .ret _ h=>.stop .ret h
   | .ex i _ h=>.stop (.ex i) h
   | .bad=>.bad)
  |_=>.bad)
def aQZ(Rq:Option Jmp->Hp->Prop):YR->Prop
 | .go h=>Rq none h
 | .stop j h=>Rq (some j) h
 | .bad=>False
def auV{keep:Nat->Bool}:∀{ps:List Nat} {args:List V} {cargs:List Value} {fr d:F} {tmps:Array Value},am1 keep ps args fr=some d->(∀t∈ps,t<tmps.size)->cO M args cargs->
  NM keep M fr {tmps:=tmps,defers:= []}->
  cargs.length=ps.length/\NM keep M d {tmps:=(ps.zip cargs).foldl (λtmps (t,a)=>tmps.setIfInBounds t a) tmps,defers:= []}/\((ps.zip cargs).foldl (λtmps (t,a)=>tmps.setIfInBounds t a) tmps).size=tmps.size
 | [],args,cargs,fr,d,tmps,b,_,j,k=>by
  cases args with
  |nil=>cases b;cases(show cargs= [] from j);exact⟨rfl,k,rfl⟩
  |cons v vs=>cases b
 |t::ts,args,cargs,fr,d,tmps,b,f,j,k=>by
  cases args with
  |nil=>cases b
  |cons v vs=>
   obtain⟨c,cs,rfl,q,n⟩:=cO.cons_inv j;simp only[am1]at b;cases m:keep t with
   |false=>rw[m]at b;cases b
   |true=>
    rw[m]at b;have p:t<tmps.size:=f t (by simp);have l:NM keep M (fr.set (some v) (Pos.of t)) {tmps:=tmps.setIfInBounds t c,defers:= []}:=by
     intro u x i;by_cases g:u=t
     ·subst g;rw[T.oM]at i;cases i;refine⟨m,?_⟩;simp only[h!];rw[Array.getElem?_setIfInBounds_self_of_lt p];exact q
     ·rw[T.sU _ (λe=>g (Pos.afz e))]at i;obtain⟨a1,a2⟩:=k u x i;refine⟨a1,?_⟩;simp only[h!]at a2⊢;rw[Array.getElem?_setIfInBounds_ne (Ne.symm g)];exact a2
    obtain⟨b1,b2,o⟩:=auV (tmps:=tmps.setIfInBounds t c) b (λu g=>by rw[p!];exact f u (by simp[g])) n l;refine⟨by simp[b1],by simpa using b2,?_⟩;have:(((t::ts).zip (c::cs)).foldl (λtmps (t,a)=>tmps.setIfInBounds t a) tmps)=((ts.zip cs).foldl (λtmps (t,a)=>tmps.setIfInBounds t a) (tmps.setIfInBounds t c)):=by simp
    rw[this,o,p!]
def aHM{B:Rng}{fr0:F}{Da Db:F->Hp->Out}(hA:eU P keep G N B.L.assign Da)(hB:eU P keep G N B.L.body Db)(hf:NM keep B.M fr0 {tmps:=B.L.tmps,defers:= []})(hN:B.L.tmps.size=N)
  (X:∀t∈B.L.params.toList,t<N) {args:List V} {cargs:List Value} (hr:Rel G M h w) (ha:cO M args cargs) (g:Goes B none M h w) {n:Nat} {R:Ending->World->Prop}
  (c:aQZ (λp h'=>∀M' w',M.le M'->Rel G M' h' w'->Goes B p M' h' w'->R (.returned (.bool p.isNone)) w') (amG keep B.L.params.toList Da Db fr0 args h)):
  cargs.toArray.size=B.L.params.size/\RoundIn (iZ none) n P B.l B.L.fn ((B.L.params.zip cargs.toArray).foldl (λtmps (t,a)=>tmps.setIfInBounds t a) B.L.tmps) B.L.assign B.L.body w R:=by
 unfold amG at c;cases e1:am1 keep B.L.params.toList args fr0 with
 |none=>rw[e1]at c;exact c.elim
 |some v=>
  rw[e1]at c;simp only[]at c;obtain⟨s1,s2,s3⟩:=auV (tmps:=B.L.tmps) e1 (λt ht=>by rw[hN];exact X t ht) ha (hf.mono g.ext.le);have hz:(B.L.params.zip cargs.toArray).foldl (λtmps (t,a)=>tmps.setIfInBounds t a) B.L.tmps=(B.L.params.toList.zip cargs).foldl (λtmps (t,a)=>tmps.setIfInBounds t a) B.L.tmps:=by
   rw[<-Array.foldl_toList];simp
  refine⟨by simpa using s1,?_⟩;rw[hz];refine roundIn_of_wpIn trivial ?_;have S:At keep G N [] M v h {tmps:=(B.L.params.toList.zip cargs).foldl (λtmps (t,a)=>tmps.setIfInBounds t a) B.L.tmps,defers:= []} w:=⟨hr,s2,by rw[s3,hN],rfl⟩
  have Y:=hA (some B.l) n [] v h M _ w (by intro e2;rw[e2]at c;exact c) S;refine wpIn_mono Y ?_;intro x a1 K q;cases e2:Da v h with
  |bad=>rw[e2]at c;exact c.elim
  |ret k E=>rw[e2]at c;exact c.elim
  |ex i k E=>rw[e2]at c;exact c.elim
  |nor k E=>
   rw[e2]at c q;simp only[]at c;cases x<;>simp only[jq]at q;obtain⟨Q,at1,O⟩:=q;have D:=g.step hr O;refine⟨_,run_beginRound D.st rfl,?_⟩;have W:B.l<K.heap.size:=(c!.1 D.st).1
   have r2:=at1.rel.putObj D.st rfl (.loop {xu B.L none with state:=.busy});have u:(K.putObj B.l (.loop {xu B.L none with state:=.busy})).heap[B.l]?=some (.loop {xu B.L none with state:=.busy}):=r! W;have s:(K.putObj B.l (.loop {xu B.L none with state:=.busy})).heap[B.w.heap.size]?=some (.deferred (some [])):=by
    rw[b! (by have:=g.hl;omega)];exact D.mrk
   have J:=D.ext.putObj (b:=B.l) (by have:=g.hl;omega) (.loop {xu B.L none with state:=.busy});generalize K.putObj B.l (.loop {xu B.L none with state:=.busy})=w2 at r2 u s J;have U:At keep G N [] Q k E a1 w2:=⟨r2,at1.fr,at1.size,at1.plain⟩
   have Z:=hB (some B.l) n [] k E Q a1 w2 (by intro C;rw[C]at c;exact c) U;refine wpIn_mono Z ?_;intro y a3 z r;have fin:∀(p:Option Jmp) d m,Rel G d m z->Ext Q E w2 d m z->(Instr.endRound B.l (p.map Jmp.code)).run P z=.ok (.bool p.isNone) (z.putObj B.l (.loop (xu B.L p)))/\Rel G d m (z.putObj B.l (.loop (xu B.L p)))/\Goes B p d m (z.putObj B.l (.loop (xu B.L p))):=by
    intro p d m r3 f;have o:=r2.kept f u rfl;have I:B.l<z.heap.size:=(c!.1 o).1;refine⟨?_,r3.putObj o rfl _,?_⟩
    ·rw[run_endRound _ o];cases p<;>rfl
    ·refine⟨(J.trans f).putObj (by have:=g.hl;omega) _,f.le _ _ D.ky,g.hl,r! I,?_⟩;rw[b! (by have:=g.hl;omega)];exact r2.kept f s rfl
   cases C:Db k E with
   |bad=>rw[C]at c;exact c.elim
   |nor H m=>
    rw[C]at c r;cases y<;>simp only[jq]at r;obtain⟨d,j,f⟩:=r;obtain⟨f1,f2,f3⟩:=fin none d m j.rel f;exact⟨_,_,f1,c d _ (Mp.le_trans O.le f.le) f2 f3⟩
   |ret H m=>
    rw[C]at c r;cases y<;>simp only[jq]at r;obtain⟨d,j,f⟩:=r;obtain⟨f1,f2,f3⟩:=fin (some .ret) d m j.rel f;exact⟨_,_,f1,c d _ (Mp.le_trans O.le f.le) f2 f3⟩
   |ex i H m=>
    rw[C]at c r;cases y<;>simp only[jq]at r;obtain⟨ej,d,j,f⟩:=r;subst ej;obtain⟨f1,f2,f3⟩:=fin (some (.ex _)) d m j.rel f;exact⟨_,_,f1,c d _ (Mp.le_trans O.le f.le) f2 f3⟩
end
section
variable{P:Program}{G N:Nat}{M M':Mp}{h h':Hp}{w w':World}{keep:Nat->Bool}{e:FuncId->Option Fun}{B:Rng}
inductive OutI where
 |nor (fr:F) (h:Hp) (p:Option Jmp)
 |ret (fr:F) (h:Hp) (p:Option Jmp)
 |ex (i:Nat) (fr:F) (h:Hp) (p:Option Jmp)
 |bad
abbrev yX:=F->Hp->Option Jmp->OutI
def aaN(o:Out)(p:Option Jmp):OutI:=match o with
 | .nor fr h=>.nor fr h p
 | .ret fr h=>.ret fr h p
 | .ex i fr h=>.ex i fr h p
 | .bad=>.bad
def aa3(D:F->Hp->Out):yX:=λfr h p=>aaN (D fr h) p
def aHH(a b:yX):yX:=λfr h p=>match a fr h p with
 | .nor fr h p=>b fr h p
 | .ret fr h p=>.ret fr h p
 | .ex i fr h p=>.ex i fr h p
 | .bad=>.bad
def aIC(c:Operand)(a b:yX):yX:=λfr h p=>match c with
 | .tmp t=>(match fr.get (Pos.of t) with
  |some v=>(match v with| .bool q=>(match q with|true=>a fr h p|false=>b fr h p)|_=>.bad)
  |none=>.bad)
 |_=>.bad
def aIJ(id:Nat)(b:yX):yX:=λfr h p=>match b fr h p with
 | .nor fr h p=>.nor fr h p
 | .ret fr h p=>.ret fr h p
 | .ex i fr h p=>(match g! i id with|true=>.nor fr h p|false=>.ex i fr h p)
 | .bad=>.bad
def aid(b:yX)(n:Nat):yX:=
 Nat.rec (motive:=λ_=>yX) (λ_ _ _=>.bad) (λ_ a fr h p=>match b fr h p with
  | .nor fr h p=>a fr h p
  | .ret fr h p=>.ret fr h p
  | .ex i fr h p=>.ex i fr h p
  | .bad=>.bad) n
def aAE(o:Oper):Bool:=match o.op with
 | .call c=>(match c.callee with
  | .value f=>(match f with| .tmp _=>true|_=>false)
  |_=>false)
 |_=>false
def yIdx:List Oper->Option Nat
 | []=>none
 |o::l=>(match aAE o with
  |true=>some 0
  |false=>(match yIdx l with|some j=>some (j+1)|none=>none))
def avJ(l:List Oper):Bool:=l.all λo=>match o.guard with|none=>true|some _=>false
def aCH(o:Oper)(fr:F)(k:Nat):Option (List V):=match o.op with
 | .call c=>(match c.callee with
  | .value f=>(match ah4 fr (f::c.args.toList) with
   |some vs=>(match vs with
    |g::args=>(match g with
     | .func fn x y=>(match x,y with
      | .nil,.nil=>(match fn with
       | .yield a=>(match g! k a with|true=>some args|false=>none)
       |_=>none)
      |_,_=>none)
     |_=>none)
    | []=>none)
   |none=>none)
  |_=>none)
 |_=>none
def aHN(P:Program)(keep:Nat->Bool)(e:FuncId->Option Fun)(Y:List V->Hp->YR)(k:Nat)(ops:Array Oper):yX:=λfr h p=>match p with
 |some _=>.bad
 |none=>(match yIdx ops.toList with
  |none=>.bad
  |some j=>(match ops[j]? with
   |none=>.bad
   |some o=>(match avJ ops.toList with
    |false=>.bad
    |true=>(match pG P keep e ops (ops.toList.take j) [] fr h with
     | .nor a c=>(match aCH o a k with
      |none=>.bad
      |some args=>(match Y args c with
       | .go b=>aaN (xO keep o.dst (.bool true) [] a λenv fr=>pG P keep e ops (ops.toList.drop (j+1)) env fr b) none
       | .stop q b=>aaN (xO keep o.dst (.bool false) [] a λenv fr=>pG P keep e ops (ops.toList.drop (j+1)) env fr b) (some q)
       | .bad=>.bad))
     |_=>.bad))))
def yields:Code->Bool
 | .region _ ops _=>ops.toList.any aAE
 | .seq a b=>yields a||yields b
 | .cond _ a b=>yields a||yields b
 | .block _ b=>yields b
 | .loop b=>yields b
 | .scope b=>yields b
 |_=>false
def Jc(P:Program)(G N:Nat)(keep:Nat->Bool)(e:FuncId->Option Fun)(pl:bY)(lf:Nat)(Y:List V->Hp->YR)(k:Nat):Code->yX
 | .seq a b=>(match yields (.seq a b) with
  |true=>aHH (Jc P G N keep e pl lf Y k a) (Jc P G N keep e pl lf Y k b)
  |false=>aa3 (lY P G N keep e pl lf (.seq a b)))
 | .cond c a b=>(match yields (.cond c a b) with
  |true=>aIC c (Jc P G N keep e pl lf Y k a) (Jc P G N keep e pl lf Y k b)
  |false=>aa3 (lY P G N keep e pl lf (.cond c a b)))
 | .block id b=>(match yields (.block id b) with
  |true=>aIJ id (Jc P G N keep e pl lf Y k b)
  |false=>aa3 (lY P G N keep e pl lf (.block id b)))
 | .loop b=>(match yields (.loop b) with
  |true=>aid (Jc P G N keep e pl lf Y k b) lf
  |false=>aa3 (lY P G N keep e pl lf (.loop b)))
 | .region id ops d=>(match yields (.region id ops d) with
  |true=>(match d with|false=>aHN P keep e Y k ops|true=>λ_ _ _=>.bad)
  |false=>aa3 (lY P G N keep e pl lf (.region id ops d)))
 |c=>aa3 (lY P G N keep e pl lf c)
structure AtI (keep:Nat->Bool) (G N:Nat) (B:Rng) (p:Option Jmp) (M:Mp) (fr:F) (h:Hp) (a:Act) (w:World):Prop where
 at_:At keep G N [] M fr h a w
 goes:Goes B p M h w
def rE(keep:Nat->Bool)(G N:Nat)(B:Rng):OutI->Exit->Act->World->Prop
 | .nor fr h p,.normal,a,w=>∃M,AtI keep G N B p M fr h a w
 | .ret fr h p,.ret,a,w=>∃M,AtI keep G N B p M fr h a w
 | .ex i fr h p,.exit j,a,w=>j=i/\∃M,AtI keep G N B p M fr h a w
 |_,_,_,_=>False
def kX(P:Program)(keep:Nat->Bool)(G N:Nat)(B:Rng)(c:Code)(I:yX):Prop:=
 ∀n p fr h M a w,I fr h p≠ .bad->AtI keep G N B p M fr h a w->c.wpIn (iZ none) n P (rE keep G N B (I fr h p)) a w
def YOk(P:Program)(G:Nat)(B:Rng)(Y:List V->Hp->YR):Prop:=
 ∀(args:List V) (cargs:List Value) (h:Hp) (M:Mp) (w:World) (n:Nat) (R:Ending->World->Prop),Rel G M h w->cO M args cargs->Goes B none M h w->
  aQZ (λp h'=>∀M' w',M.le M'->Rel G M' h' w'->Goes B p M' h' w'->R (.returned (.bool p.isNone)) w') (Y args h)->
  cargs.toArray.size=B.L.params.size/\RoundIn (iZ none) n P B.l B.L.fn ((B.L.params.zip cargs.toArray).foldl (λtmps (t,a)=>tmps.setIfInBounds t a) B.L.tmps) B.L.assign B.L.body w R
def avf{p:Option Jmp}{Df:Unit}{M:Mp}{h:Hp}{w:World}(c:Rel G M h w)(g:Goes B p M h w){o:Out}:∀x a' w',jq keep G N [] M h w o x a' w'->rE keep G N B (aaN o p) x a' w':=by
 intro x a' w' q;cases o<;>cases x<;>simp only[jq]at q
 ·obtain⟨M',a,b⟩:=q;exact⟨M',a,g.step c b⟩
 ·obtain⟨M',a,b⟩:=q;exact⟨M',a,g.step c b⟩
 ·obtain⟨e1,M',a,b⟩:=q;exact⟨e1,M',a,g.step c b⟩
def avg{o:Out}{p:Option Jmp}(a:aaN o p≠ .bad):o≠ .bad:=λe=>by rw[e]at a;exact a rfl
def kX.lift{c:Code}{D:F->Hp->Out}(d:eU P keep G N c D):kX P keep G N B c (aa3 D):=λn p fr h M a w b at_=>
 wpIn_mono (d none n [] fr h M a w (avg b) at_.at_) (avf (Df:=()) at_.at_.rel at_.goes)
def kX.seq{c d:Code}{I J:yX}(k:kX P keep G N B c I)(hd:kX P keep G N B d J):kX P keep G N B (.seq c d) (aHH I J):=by
 intro n p fr h M a w b at_;refine wpIn_seq ?_;unfold aHH at b⊢;cases e1:I fr h p with
 |bad=>rw[e1]at b;exact absurd rfl b
 |nor f j l=>
  rw[e1]at b;refine wpIn_mono (k n p fr h M a w (by rw[e1];simp) at_) ?_;intro x a' w' q;rw[e1]at q;cases x<;>simp only[rE]at q;obtain⟨M',g⟩:=q;exact hd n l f j M' a' w' b g
 |ret f j l=>
  refine wpIn_mono (k n p fr h M a w (by rw[e1];simp) at_) ?_;intro x a' w' q;rw[e1]at q;cases x<;>simp only[rE]at q;exact q
 |ex i f j l=>
  refine wpIn_mono (k n p fr h M a w (by rw[e1];simp) at_) ?_;intro x a' w' q;rw[e1]at q;cases x<;>simp only[rE]at q;exact q
def kX.cond{x:Operand}{c d:Code}{I J:yX}(j:kX P keep G N B c I)(hd:kX P keep G N B d J):kX P keep G N B (.cond x c d) (aIC x I J):=by
 intro n p fr h M a w b at_;cases x with
 |tmp t=>
  simp only[aIC]at b⊢;cases i:fr.get (Pos.of t) with
  |none=>rw[i]at b;exact absurd rfl b
  |some v=>
   rw[i]at b;cases v<;>try exact absurd rfl b
   rename_i q;have hb:=(at_.at_.fr t _ i).2.bool;cases q
   ·exact wpIn_cond_false (show a.eval (.tmp t)=.bool false from hb) (hd n p fr h M a w b at_)
   ·exact wpIn_cond_true (show a.eval (.tmp t)=.bool true from hb) (j n p fr h M a w b at_)
 |const c=>exact absurd rfl b
 |global g=>exact absurd rfl b
 |func f=>exact absurd rfl b
def kX.block{id:Nat}{c:Code}{I:yX}(f:kX P keep G N B c I):kX P keep G N B (.block id c) (aIJ id I):=by
 intro n p fr h M a w b at_;refine wpIn_block ?_;unfold aIJ at b⊢;cases e1:I fr h p with
 |bad=>rw[e1]at b;exact absurd rfl b
 |nor d g j=>
  refine wpIn_mono (f n p fr h M a w (by rw[e1];simp) at_) ?_;intro x a' w' q;rw[e1]at q;cases x<;>simp only[rE]at q;exact q
 |ret d g j=>
  refine wpIn_mono (f n p fr h M a w (by rw[e1];simp) at_) ?_;intro x a' w' q;rw[e1]at q;cases x<;>simp only[rE]at q;exact q
 |ex i d g j=>
  refine wpIn_mono (f n p fr h M a w (by rw[e1];simp) at_) ?_;intro x a' w' q;rw[e1]at q;cases x<;>simp only[rE]at q;obtain⟨rfl,q⟩:=q;simp only[Exit.inBlock];cases hb:g! _ id with
  |true=>rw[if_pos (a! hb)];exact q
  |false=>rw[if_neg (u! hb)];exact⟨rfl,q⟩
def aDl(b:yX)(n:Nat)(fr:F)(h:Hp)(p:Option Jmp):aid b (n+1) fr h p=(match b fr h p with
  | .nor fr h p=>aid b n fr h p
  | .ret fr h p=>.ret fr h p
  | .ex i fr h p=>.ex i fr h p
  | .bad=>.bad):=rfl
def kX.loop{c:Code}{I:yX}(S:kX P keep G N B c I)(n:Nat):kX P keep G N B (.loop c) (aid I n):=by
 intro L p fr h M a w v at_;generalize E:aid I n fr h p=out at v
 let J:Nat->Act->World->Prop:=λm a' w'=>∃j h' s M',aid I m j h' s=out/\AtI keep G N B s M' j h' a' w'
 intro b k cs U hb z;have key:∀(n:Nat) a' w',J n a' w'->∃e C H,rE keep G N B out e C H/\ArrivesIn (Machine.fenced P (iZ none)) P (lone (b.atR a' (.code c:: .inLoop c::k)) cs w') b k cs e C H:=by
  intro n;induction n with
  |zero=>rintro a' w' ⟨j,h',s,M',e,-⟩;exact absurd e.symm v
  |succ n ih=>
   rintro a' w' ⟨j,h',s,M',e,t⟩;rw[aDl]at e;have Z:c.wpIn (iZ none) L P (Exit.then (λa w=>J n a w) (rE keep G N B out)) a' w':=by
    cases e1:I j h' s with
    |bad=>rw[e1]at e;exact absurd e.symm v
    |nor u Q W=>
     rw[e1]at e;refine wpIn_mono (S L s j h' M' a' w' (by rw[e1];simp) t) ?_;intro x a2 X q;rw[e1]at q;cases x<;>simp only[rE]at q;obtain⟨Y,O⟩:=q;exact⟨u,Q,W,Y,e,O⟩
    |ret u Q W=>
     rw[e1]at e;refine wpIn_mono (S L s j h' M' a' w' (by rw[e1];simp) t) ?_;intro x a2 X q;rw[e1]at q;cases x<;>simp only[rE]at q;subst e;exact q
    |ex i u Q W=>
     rw[e1]at e;refine wpIn_mono (S L s j h' M' a' w' (by rw[e1];simp) t) ?_;intro x a2 X q;rw[e1]at q;cases x<;>simp only[rE]at q;subst e;exact q
   obtain⟨x,f,g,r,d⟩:=Z b (.inLoop c::k) cs U hb z;cases x with
   |normal=>
    obtain⟨x2,D,K,y,o⟩:=ih f g r;exact⟨x2,D,K,y,.of_steps (StepsIn.trans d (.one (fenced_calm hb z rfl) stepR_inLoop)) o⟩
   |exit id=>exact⟨_,f,g,r,.pass (x:=.inLoop c) rfl (λ_ _=>.inl (by simp)) d⟩
   |goto l=>exact⟨_,f,g,r,.pass (x:=.inLoop c) rfl (λ_ _=>.inl (by simp)) d⟩
   |ret=>exact⟨_,f,g,r,.pass (x:=.inLoop c) rfl (λ_ _=>.inl (by simp)) d⟩
   |panic ch=>exact⟨_,f,g,r,.pass (x:=.inLoop c) rfl (λ_ _=>.inl (by simp)) d⟩
   |outgrown=>exact⟨_,f,g,r,.pass (x:=.inLoop c) rfl (λ_ _=>.inl (by simp)) d⟩
 obtain⟨x,a',w',r,d⟩:=key n a w ⟨fr,h,p,M,E,at_⟩;exact⟨x,a',w',r,.of_steps (.one (fenced_calm hb z rfl) stepR_loop) d⟩
def aKG{ro:Option Nat}{n:Nat}{Df:List Deferred}(y:∀f F,e f=some F->aG P G f F){ops:Array Oper}{d:F}{h':Hp}{Q:Exit->Act->World->Prop}{u:List Nat}:
  ∀(l:List Nat) (env:Env) (fr:F) (h:Hp) (M:Mp) (a:Act) (w:World),(∀i∈l,∃o,ops[i]?=some o/\o.guard=none/\qL G N o=true)->At keep G N Df M fr h a w->nM M env a->
   pG P keep e ops (l.filterMap (ops[·]?)) env fr h=.nor d h'->
   (∀a' w' M',At keep G N Df M' d h' a' w'->Ext M h w M' h' w'->wpOpsIn (iZ ro) n P ops Q u a' w')->wpOpsIn (iZ ro) n P ops Q (l++u) a w:=by
 intro l;induction l with
 |nil=>
  intro env fr h M a w _ at_ _ b q;simp only[List.filterMap_nil,pG]at b;cases b;exact q a w M at_ (.refl at_.rel)
 |cons i l E=>
  intro env fr h M a w hl at_ z b q;obtain⟨o,t,g,k⟩:=hl i (by simp);rw[List.cons_append];simp only[wpOpsIn,t];rw[q! t]at b;unfold pG at b;simp only[g]at b;have C:l! o (yielded ops a.tmps)=true:=by simp[l!,g]
  simp only[C,if_true];refine aER (Q:=λ_ _ _=>False) (λ_ _ h=>h) (λ_ _ _ h=>h.elim) (vU k) (am9 y k (by simp) at_ z b ?_);intro c p x a' w' M' e1 at1 r D;exact E c p x M' a' w' (λj hj=>hl j (by simp[hj])) at1 r e1 λa2 H v m s=>q a2 H v m (D.trans s)
def azX:∀{l:List Oper} {j:Nat},yIdx l=some j->j<l.length
 | [],j,h=>by cases h
 |o::l,j,h=>by
  simp only[yIdx]at h;split at h
  ·cases h;simp
  ·split at h
   ·rename_i j' a;cases h;have:=azX a;simp;omega
   ·cases h
def FV(ops:Array Oper):∀(n k:Nat),k+n<=ops.size->(e! k n).filterMap (ops[·]?)=(ops.toList.drop k).take n
 |0,k,_=>by simp
 |n+1,k,b=>by
  rw[D!,q! (i! (by omega)),FV ops n (k+1) (by omega)];have a:k<ops.toList.length:=by simp;omega
  rw[List.drop_eq_getElem_cons a,List.take_succ_cons];simp
def kX.region(hE:∀f F,e f=some F->aG P G f F){Y:List V->Hp->YR}(hY:YOk P G B Y){id:Nat}{ops:Array Oper}(C:∀o∈ops.toList,qL G N o=true):kX P keep G N B (.region id ops false) (aHN P keep e Y B.kp.nat ops):=by
 intro n p fr h M a w d at_;refine wpIn_region ?_;unfold aHN at d⊢;cases p with
 |some q=>exact absurd rfl d
 |none=>
 simp only[]at d⊢;cases hj:yIdx ops.toList with
 |none=>rw[hj]at d;exact absurd rfl d
 |some j=>
 have S:j<ops.size:=by simpa using azX hj
 rw[hj]at d;simp only[]at d⊢;have ho:ops[j]?=some ops[j]:=i! S;rw[ho]at d⊢;simp only[]at d⊢;cases U:avJ ops.toList with
 |false=>rw[U]at d;exact absurd rfl d
 |true=>
 rw[U]at d;simp only[]at d⊢;have ac:∀o∈ops.toList,o.guard=none:=λo hm=>by
  have:=o!.1 U o hm;split at this
  ·assumption
  ·cases this
 cases u:pG P keep e ops (ops.toList.take j) [] fr h with
 |bad=>rw[u]at d;exact absurd rfl d
 |ret r h1=>rw[u]at d;exact absurd rfl d
 |ex i r h1=>rw[u]at d;exact absurd rfl d
 |nor r h1=>
 rw[u]at d;simp only[]at d⊢;have z:∀{i:Nat} (hi:i<ops.size),ops[i]∈ops.toList:=λhi=>by simp
 have H:List.range ops.size=e! 0 j++(j::e! (j+1) (ops.size - (j+1))):=by
  have t:e! j (ops.size - j)=j::e! (j+1) (ops.size - (j+1)):=by
   rw[show ops.size - j=(ops.size - (j+1))+1 by omega,D!]
  rw[<-t,List.range_eq_range'];have:=List.range'_append (s:=0) (m:=j) (n:=ops.size - j) (step:=1);simp only[Nat.one_mul,Nat.zero_add]at this;rw[this];congr 1;omega
 rw[H];refine aKG hE (e! 0 j) [] fr h M a w (λi hi=>?_) at_.at_ (nM.nil M a) (by rw[FV ops j 0 (by omega)];exact u) ?_
 ·have Q:i<ops.size:=by
   have:=E!.1 hi;obtain⟨q,hq,rfl⟩:=this;omega
  exact⟨ops[i],i! Q,ac _ (z Q),C _ (z Q)⟩
 intro a1 w1 M1 at1 ap;have g1:=at_.goes.step at_.at_.rel ap;simp only[wpOpsIn,ho];have hw:l! ops[j] (yielded ops a1.tmps)=true:=by simp[l!,ac _ (z S)]
 simp only[hw,if_true];have J:=C _ (z S);have ad:=vU J;cases k:aCH ops[j] r B.kp.nat with
 |none=>rw[k]at d;exact absurd rfl d
 |some args=>
 rw[k]at d;simp only[]at d⊢;have K:∃cargs,cO M1 args cargs/\∀{w'},(Instr.yield B.l cargs.toArray).run P w1=w'->(execOp a1.eval ops[j]).run P w1=w':=by
  unfold aCH at k;split at k
  ·rename_i c al;split at k
   ·rename_i f ab;split at k
    ·rename_i vs am;split at k
     ·rename_i g ar;split at k
      ·rename_i fn x y;split at k
       ·split at k
        ·rename_i k';split at k
         ·rename_i hk;cases k;have hk:=a! hk;subst hk;obtain⟨cg,cargs,q1,q2,q3⟩:=(aaO at1 am).cons_inv;rw[G!]at q1;cases q1;obtain⟨g0,xs,ys,ak,ao,au,hf⟩:=q2.func;obtain⟨L,hL,rfl⟩:=ak;rw[Pos.OE,g1.ky]at hL;cases hL;cases(show xs= [] from ao);refine⟨_,q3,λ{w'} an=>?_⟩;rw[<-an];have e2:(c.args.toList.map a1.eval).toArray=c.args.map a1.eval:=by apply Array.ext';simp
          rw[e2];simp only[execOp,al,resolve,ab,hf,Deferred.ofValue];simp[invoke]
         ·cases k
        ·cases k
       ·cases k
      ·cases k
     ·cases k
    ·cases k
   ·cases k
  ·cases k
 obtain⟨cargs,E,O⟩:=K;refine⟨λ_ _=>trivial,?_⟩;rw[Oper.semAt_eq _ _ _ ad];have after:∀(b:Bool) (p:Option Jmp) (t:Hp),aaN (xO keep ops[j].dst (.bool b) [] r λenv fr=>pG P keep e ops (ops.toList.drop (j+1)) env fr t) p≠ .bad->
   ∀M' w',M1.le M'->Rel G M' t w'->Goes B p M' t w'->wpOpsIn (iZ none) n P ops (rE keep G N B (aaN (xO keep ops[j].dst (.bool b) [] r λenv fr=>pG P keep e ops (ops.toList.drop (j+1)) env fr t) p)) (e! (j+1) (ops.size - (j+1))) (a1.put ops[j].dst (.bool b)) w':=by
  intro b p t I M2 w2 D af g2;have ag:At keep G N [] M2 r t a1 w2:=⟨af,at1.fr.mono D,at1.size,at1.plain⟩
  generalize ae:(xO keep ops[j].dst (.bool b) [] r λenv fr=>pG P keep e ops (ops.toList.drop (j+1)) env fr t)=out at I;obtain⟨Z,ai,e1,ah,aj⟩:=aio ag (nM.nil M2 a1) (IY J) (BL M2 b) ae;refine aC6 (avf (Df:=()) af g2) jq.aui (λo ho=>vU (C o ho)) _ _ _ (aAf hE C (avg I) _ Z ai t M2 _ w2 (λi hi=>?_) ah aj ?_)
  ·obtain⟨q,hq,rfl⟩:=E!.1 hi;omega
  ·rw[FV ops _ (j+1) (by omega),List.take_of_length_le (by simp)];exact e1
 have aa:=hY args cargs h1 M1 w1 (n - 1) (fun
  | .returned v,aq=>wpOpsIn (iZ none) n P ops (rE keep G N B (match Y args h1 with
   | .go t=>aaN (xO keep ops[j].dst (.bool true) [] r λenv fr=>pG P keep e ops (ops.toList.drop (j+1)) env fr t) none
   | .stop q t=>aaN (xO keep ops[j].dst (.bool false) [] r λenv fr=>pG P keep e ops (ops.toList.drop (j+1)) env fr t) (some q)
   | .bad=>.bad)) (e! (j+1) (ops.size - (j+1))) (a1.put ops[j].dst v) aq
  | .panicked _,_=>False
  | .outgrown,_=>False) at1.rel E g1 (by
   cases hy:Y args h1 with
   |bad=>rw[hy]at d;exact absurd rfl d
   |go t=>
    rw[hy]at d;exact λM' w' D W g'=>after true none t d M' w' D W g'
   |stop q t=>
    rw[hy]at d;exact λM' w' D W g'=>after false (some q) t d M' w' D W g')
 rw[O (run_yield g1.st aa.1)];rw[Oper.uponIn_round];refine⟨λhx=>by simp[iZ,Fence.wide]at hx,?_⟩;refine RoundIn.mono aa.2 ?_;intro x w2 X;cases x with
 |returned v=>exact X
 |panicked ch=>exact X.elim
 |outgrown=>exact X.elim
end
section
variable{P:Program}{G N:Nat}{M M':Mp}{h h':Hp}{w w':World}{keep:Nat->Bool}{e:FuncId->Option Fun}{r:V}{B:Rng}
def oZ(G N:Nat):Code->Bool
 | .seq a b=>(match yields (.seq a b) with|true=>oZ G N a&&oZ G N b|false=>codeOk G N (.seq a b))
 | .cond c a b=>(match yields (.cond c a b) with|true=>oZ G N a&&oZ G N b|false=>codeOk G N (.cond c a b))
 | .block id b=>(match yields (.block id b) with|true=>oZ G N b|false=>codeOk G N (.block id b))
 | .loop b=>(match yields (.loop b) with|true=>oZ G N b|false=>codeOk G N (.loop b))
 |c=>codeOk G N c
def kX.bad{c:Code}:kX P keep G N B c (λ_ _ _=>.bad):=λ_ _ _ _ _ _ _ a _=>absurd rfl a
def MR(j:P.follows .mixedOrders=true)(i:∀f F,e f=some F->aG P G f F){Y:List V->Hp->YR}(k:YOk P G B Y)(pl:bY)(lf:Nat):(c:Code)->oZ G N c=true->kX P keep G N B c (Jc P G N keep e pl lf Y B.kp.nat c)
 | .seq a b,g=>by
  unfold oZ at g;unfold Jc;split at g
  ·rename_i hd
   (try rw[hd])
   simp only[d!]at g;exact .seq (MR j i k pl lf a g.1) (MR j i k pl lf b g.2)
  ·rename_i hd
   (try rw[hd])
   exact .lift (eF j i pl lf _ g)
 | .cond c a b,g=>by
  unfold oZ at g;unfold Jc;split at g
  ·rename_i hd
   (try rw[hd])
   simp only[d!]at g;exact .cond (MR j i k pl lf a g.1) (MR j i k pl lf b g.2)
  ·rename_i hd
   (try rw[hd])
   exact .lift (eF j i pl lf _ g)
 | .block id b,g=>by
  unfold oZ at g;unfold Jc;split at g
  ·rename_i hd
   (try rw[hd])
   exact .block (MR j i k pl lf b g)
  ·rename_i hd
   (try rw[hd])
   exact .lift (eF j i pl lf _ g)
 | .loop b,g=>by
  unfold oZ at g;unfold Jc;split at g
  ·rename_i hd
   (try rw[hd])
   exact .loop (MR j i k pl lf b g) lf
  ·rename_i hd
   (try rw[hd])
   exact .lift (eF j i pl lf _ g)
 | .region id ops d,g=>by
  unfold Jc;split
  ·cases d with
   |true=>exact .bad
   |false=>
    unfold oZ at g;simp only[codeOk,o!]at g;exact .region i k g
  ·exact .lift (eF j i pl lf _ (by unfold oZ at g;exact g))
 | .skip,g=>.lift (eF j i pl lf _ g)
 | .label _,g=>.lift (eF j i pl lf _ g)
 | .exit _,g=>.lift (eF j i pl lf _ g)
 | .ret,g=>.lift (eF j i pl lf _ g)
 | .scope _,g=>.lift (eF j i pl lf _ g)
 | .goto _,g=>.lift (eF j i pl lf _ g)
 | .rangeFunc ..,g=>.lift (eF j i pl lf _ g)
 | .refuse _,g=>.lift (eF j i pl lf _ g)
inductive IR where
 |ok (h:Hp) (p:Option Jmp)
 |bad
abbrev an5:=(List V->Hp->YR)->Nat->List V->Hp->IR
def aDs(P:Program)(G:Nat)(keep:Nat->Bool)(e:FuncId->Option Fun)(pl:bY)(lf:Nat)(fn:Func):an5:=λY k args h=>match fn.body with
 |none=>.bad
 |some c=>(match Nat.ble args.length fn.ntmps,g! fn.results.size 0 with
  |true,true=>(match Jc P G fn.ntmps keep e pl lf Y k c (FK keep 0 args .nil) h none with
   | .nor _ h' p=>.ok h' p
   | .ret _ h' p=>.ok h' p
   |_=>.bad)
  |_,_=>.bad)
def Jk(P:Program)(G:Nat)(f:FuncId)(I:an5):Prop:=
 (∀args w,(callFunc f args).run P w=.ok (.enter f args) w)/\
 ∀(B:Rng) (Y:List V->Hp->YR) (args:List V) (cargs:List Value) (h h':Hp) (p:Option Jmp) (M:Mp) (w:World) (n:Nat),YOk P G B Y->I Y B.kp.nat args h=.ok h' p->Rel G M h w->cO M args cargs->Goes B none M h w->
  CallsIn (iZ none) n P f cargs.toArray w λe w'=>∃c,e=.returned c/\∃M',Rel G M' h' w'/\Goes B p M' h' w'
def aId(E:P.follows .mixedOrders=true){f:FuncId}{fn:Func}{pl:bY}{lf:Nat}(z:∀f F,e f=some F->aG P G f F)(u:P.funcs[f]?=some fn)(i:((match fn.body with|some c=>oZ G fn.ntmps c|none=>false)&&!(fn.name== "runtime.NumGoroutine"))=true):Jk P G f (aDs P G keep e pl lf fn):=by
 simp only[d!,C!]at i;cases hb:fn.body with
 |none=>rw[hb]at i;cases i.1
 |some c=>
  rw[hb]at i;refine⟨afr u i.2 hb,?_⟩;intro B Y args cargs h h' p M w n C d H D g;unfold aDs at d;rw[hb]at d;simp only[]at d;split at d
  ·rename_i t b;have b:fn.results= #[]:=Array.size_eq_zero_iff.1 (a! b);have s:=aAG (keep:=keep) (fn:=fn) H D (v! t);have v:∀o,Jc P G fn.ntmps keep e pl lf Y B.kp.nat c (FK keep 0 args .nil) h none=o->o≠ .bad->c.wpIn (iZ none) n P (rE keep G fn.ntmps B o) {tmps:=cargs.toArray++k! (fn.ntmps - cargs.toArray.size) undef,defers:= []} w:=by
    intro o j k;rw[<-j]at k⊢;exact MR E z C pl lf c i.1 n none _ h M _ w k ⟨s,g⟩
   have l:∀(tmps:Array Value) (w':World),(results fn tmps).run P w'=.ok (.tuple #[]) w':=λtmps w'=>by
    rw[aaJ,b];simp
   refine callsIn_of_wp u hb trivial ?_ rfl;split at d
   ·rename_i m y I j;cases d;refine wpIn_mono (v _ j (by simp)) ?_;intro x a' w' q;cases x<;>simp only[rE]at q;obtain⟨M',a,g'⟩:=q;exact⟨a.plain,_,l _ _,_,rfl,M',a.rel,g'⟩
   ·rename_i m y I j;cases d;refine wpIn_mono (v _ j (by simp)) ?_;intro x a' w' q;cases x<;>simp only[rE]at q;obtain⟨M',a,g'⟩:=q;exact⟨a.plain,_,l _ _,_,rfl,M',a.rel,g'⟩
   ·cases d
  ·cases d
def kS(b:Nat):List Deferred->World->Prop
 | [],_=>True
 |d::ds,w=>∃r,d.target=.collected r/\b<=r/\w.heap[r]?=some (.deferred (some []))/\(∀a∈ds,a.target≠ .collected r)/\kS b ds w
def kS.step{b:Nat}(a:Rel G M h w)(x:Ext M h w M' h' w'):∀{Df:List Deferred},kS b Df w->kS b Df w'
 | [],_=>trivial
 |_::_,⟨r,c,d,f,g,i⟩=>⟨r,c,d,a.kept x f rfl,g,kS.step a x i⟩
def kS.put{b r:Nat}{o':Obj}:∀{Df:List Deferred},(∀a∈Df,a.target≠ .collected r)->kS b Df w->kS b Df (w.putObj r o')
 | [],_,_=>trivial
 |d::ds,hn,⟨k,c,f,g,i,j⟩=>⟨k,c,f,by rw[b! (λe=>hn d (by simp) (by rw[c,e]))];exact g,i,kS.put (λa hd=>hn a (by simp[hd])) j⟩
def kS.lt{b:Nat}:∀{Df:List Deferred},kS b Df w->∀d∈Df,∀r,d.target=.collected r->r<w.heap.size
 |d::ds,⟨r,c,_,f,_,g⟩,a,hd,i,e=>by
  rcases List.mem_cons.1 hd with rfl|hd
  ·rw[c]at e;cases e;exact(c!.1 f).1
  ·exact kS.lt g a hd i e
def zo(keep:Nat->Bool)(G N b:Nat)(M:Mp)(h:Hp)(w:World):Out->Exit->Act->World->Prop
 | .nor fr h',.normal,a,w'=>∃M' Df,kS b Df w'/\At keep G N Df M' fr h' a w'/\Ext M h w M' h' w'
 | .ret fr h',.ret,a,w'=>∃M' Df,kS b Df w'/\At keep G N Df M' fr h' a w'/\Ext M h w M' h' w'
 | .ex i fr h',.exit j,a,w'=>j=i/\∃M' Df,kS b Df w'/\At keep G N Df M' fr h' a w'/\Ext M h w M' h' w'
 |_,_,_,_=>False
def zo.trans{b:Nat}{M':Mp}{w':World}(x:Ext M h w M' h' w'){o:Out}{e:Exit}{a:Act}{v:World}(q:zo keep G N b M' h' w' o e a v):zo keep G N b M h w o e a v:=by
 cases o<;>cases e<;>simp only[zo]at q⊢
 ·obtain⟨c,Df,m,p,y⟩:=q;exact⟨c,Df,m,p,x.trans y⟩
 ·obtain⟨c,Df,m,p,y⟩:=q;exact⟨c,Df,m,p,x.trans y⟩
 ·obtain⟨rfl,c,Df,m,p,y⟩:=q;exact⟨rfl,c,Df,m,p,x.trans y⟩
def pY(P:Program)(keep:Nat->Bool)(G N:Nat)(c:Code)(D:F->Hp->Out):Prop:=
 ∀n b Df fr h M a w,D fr h≠ .bad->b<=w.heap.size->kS b Df w->At keep G N Df M fr h a w->c.wpIn (iZ none) n P (zo keep G N b M h w (D fr h)) a w
def pY.lift{c:Code}{D:F->Hp->Out}(g:eU P keep G N c D):pY P keep G N c D:=by
 intro n b Df fr h M a w f hb d at_;refine wpIn_mono (g none n Df fr h M a w f at_) ?_;intro x a' w' q;generalize D fr h=o at q;cases o<;>cases x<;>simp only[jq]at q
 ·obtain⟨M',p,y⟩:=q;exact⟨M',Df,d.step at_.rel y,p,y⟩
 ·obtain⟨M',p,y⟩:=q;exact⟨M',Df,d.step at_.rel y,p,y⟩
 ·obtain⟨e1,M',p,y⟩:=q;exact⟨e1,M',Df,d.step at_.rel y,p,y⟩
def pY.seq{c d:Code}{D E:F->Hp->Out}(m:pY P keep G N c D)(hd:pY P keep G N d E):pY P keep G N (.seq c d) (aB D E):=by
 intro n b Df fr h M a w f hb o at_;refine wpIn_seq ?_;unfold aB at f⊢;cases e1:D fr h with
 |bad=>rw[e1]at f;exact absurd rfl f
 |nor g l=>
  rw[e1]at f;refine wpIn_mono (m n b Df fr h M a w (by rw[e1];simp) hb o at_) ?_;intro x a' w' q;rw[e1]at q;cases x<;>simp only[zo]at q;obtain⟨M',j,p,k,s⟩:=q;exact wpIn_mono (hd n b j g l M' a' w' f (Nat.le_trans hb s.size) p k) λx a w q=>zo.trans s q
 |ret g l=>
  refine wpIn_mono (m n b Df fr h M a w (by rw[e1];simp) hb o at_) ?_;intro x a' w' q;rw[e1]at q;cases x<;>simp only[zo]at q;exact q
 |ex i g l=>
  refine wpIn_mono (m n b Df fr h M a w (by rw[e1];simp) hb o at_) ?_;intro x a' w' q;rw[e1]at q;cases x<;>simp only[zo]at q;exact q
def pY.cond{x:Operand}{c d:Code}{D E:F->Hp->Out}(l:∀g,x=.global g->g<G)(k:pY P keep G N c D)(hd:pY P keep G N d E):pY P keep G N (.cond x c d) (aqA x D E):=by
 intro n b Df fr h M a w f hb i at_;obtain⟨v,env,e1,m,-⟩:=ah5 f at_ l (nM.nil M a) (rfl:aqA x D E fr h=_);rw[<-e1]at f⊢;cases v<;>simp only[ne_eq,not_true_eq_false]at f⊢;rename_i t;have j:=m.bool;cases t
 ·exact wpIn_cond_false j (hd n b Df fr h M a w f hb i at_)
 ·exact wpIn_cond_true j (k n b Df fr h M a w f hb i at_)
def pY.block{id:Nat}{c:Code}{D:F->Hp->Out}(g:pY P keep G N c D):pY P keep G N (.block id c) (bD id D):=by
 intro n b Df fr h M a w d hb j at_;refine wpIn_block ?_;unfold bD at d⊢;cases e1:D fr h with
 |bad=>rw[e1]at d;exact absurd rfl d
 |nor f k=>
  refine wpIn_mono (g n b Df fr h M a w (by rw[e1];simp) hb j at_) ?_;intro x a' w' q;rw[e1]at q;cases x<;>simp only[zo]at q;exact q
 |ret f k=>
  refine wpIn_mono (g n b Df fr h M a w (by rw[e1];simp) hb j at_) ?_;intro x a' w' q;rw[e1]at q;cases x<;>simp only[zo]at q;exact q
 |ex i f k=>
  refine wpIn_mono (g n b Df fr h M a w (by rw[e1];simp) hb j at_) ?_;intro x a' w' q;rw[e1]at q;cases x<;>simp only[zo]at q;obtain⟨rfl,q⟩:=q;simp only[Exit.inBlock];cases hb:g! _ id with
  |true=>rw[if_pos (a! hb)];exact q
  |false=>rw[if_neg (u! hb)];exact⟨rfl,q⟩
abbrev NV:=FuncId->Option an5
def aCW(c:NV)(keep:Nat->Bool)(g:Operand)(ps:List Nat)(Da Db:F->Hp->Out)(fr:F)(h:Hp):Out:=
 aaP g [] fr λv _=>match v with
 | .func fn a b=>(match fn with
  | .func f=>(match c f with
   |some I=>(match I (amG keep ps Da Db fr) h.next.nat (a.list++(.func (.yield h.next.nat) .nil .nil::b.list)) (aK 1 h) with
    | .ok h' p=>(match p with
     |none=>.nor fr h'
     |some j=>(match j with| .ret=>.ret fr h'| .ex i=>.ex i fr h'))
    | .bad=>.bad)
   |none=>.bad)
  |_=>.bad)
 |_=>.bad
def pY.range{Q:NV}(hI:∀f I,Q f=some I->Jk P G f I){g:Operand}{ps:Array Tmp}{ca cb:Code}{Da Db:F->Hp->Out}(hg:∀x,g=.global x->x<G)(aa:∀t∈ps.toList,t<N)(hA:eU P keep G N ca Da)(hB:eU P keep G N cb Db):
  pY P keep G N (.rangeFunc g ps ca cb) (aCW Q keep g ps.toList Da Db):=by
 intro n b Df fr h M a w d hb hm at_;refine wpIn_rangeFunc λfn _=>?_;generalize k:aCW Q keep g ps.toList Da Db fr h=out at d;unfold aCW at k;obtain⟨v,env,e1,hv,-⟩:=ah5 d at_ hg (nM.nil M a) k;clear k;split at e1
 ·rename_i ah va vb;split at e1
  ·rename_i f;split at e1
   ·rename_i I X;split at e1
    ·rename_i h' p H;obtain⟨s,u⟩:=hI f I X;obtain⟨g0,xs,ys,Y,ad,ae,Z⟩:=hv.func;obtain rfl:g0=.func f:=Y
     let L:Loop:={state:=.ready,pending:=none,fn,tmps:=a.tmps,params:=ps,assign:=ca,body:=cb,defers:=w.heap.size}
     let B:Rng:={M:=M,h:=h,w:=w,kp:=h.next,l:=w.heap.size+1,L:=L}
     let m:=(w.alloc (.deferred (some []))).alloc (.loop L)
     have ac:(w.alloc (.deferred (some []))).heap.size=w.heap.size+1:=World.size_alloc _ _;have r1:Rel G M h m:=(at_.rel.UN _).UN _;have x1:Ext M h w M h m:=((Ext.refl at_.rel).UN _).UN _;obtain⟨r2,x2⟩:=aFt r1 ⟨w.heap.size+1,0,0⟩;have y:=x2.le;generalize S:M.add h.next ⟨w.heap.size+1,0,0⟩=K at r2 x2 y;have E:K h.next=some ⟨w.heap.size+1,0,0⟩:=by rw[<-S];exact M.fF _ _
     have g1:Goes B none K (aK 1 h) m:=by
      refine⟨x1.trans x2,E,Nat.lt_succ_self _,?_,?_⟩
      ·show m.heap[w.heap.size+1]?=some (.loop L);rw[<-ac];exact t! _ _
      ·show((w.alloc (.deferred (some []))).heap.push (.loop L))[w.heap.size]?=some (.deferred (some []));rw[n!,if_neg (by omega)];exact t! _ _
     have hY:YOk P G B (amG keep ps.toList Da Db fr):=λargs cargs h2 M2 w2 n2 R ab U g2 af=>
      aHM (B:=B) (fr0:=fr) hA hB at_.fr at_.size aa ab U g2 af
     have q:cO K (va.list++(.func (.yield h.next.nat) .nil .nil::vb.list)) (xs++(.func (.yield (w.heap.size+1)) #[] #[]::ys)):=by
      refine(ad.mono y).append ⟨_,_,⟨rfl,.yield (w.heap.size+1),[],[],⟨_,by rw[Pos.OE];exact E,rfl⟩,⟨rfl,rfl⟩,rfl,rfl,rfl⟩,ae.mono y,rfl⟩
     refine⟨w.heap.size+1,[{target:=.collected w.heap.size,args:= #[]}],m,{target:=.fn (.func f) ys.toArray,args:=xs.toArray++ #[.func (.yield (w.heap.size+1)) #[] #[]]},m,f,(xs++(.func (.yield (w.heap.size+1)) #[] #[]::ys)).toArray,m,run_enterLoop_outer _ _ _ _ _,?_,λ_ _=>trivial,?_,λhx=>by simp[iZ,Fence.wide]at hx,?_⟩
     ·simp only[resolve,rangeCall,Z,Deferred.ofValue];simp[Act.eval]
     ·have:=s ((xs.toArray++ #[.func (.yield (w.heap.size+1)) #[] #[]])++ys.toArray) m;have e2:((xs.toArray++ #[Value.func (.yield (w.heap.size+1)) #[] #[]])++ys.toArray)=(xs++(.func (.yield (w.heap.size+1)) #[] #[]::ys)).toArray:=by simp
      rw[<-e2];exact this
     ·refine CallsIn.mono (u B _ _ _ _ h' p K m _ hY H r2 q g1) ?_;rintro x O ⟨c,rfl,C,r3,D⟩;have ag:w.heap.size+1<O.heap.size:=(c!.1 D.st).1
      refine⟨_,_,run_endLoop D.st (by cases p<;>simp[xu]),?_⟩;have r4:=r3.putObj D.st rfl (.loop {xu B.L p with state:=.exhausted})
      have z:Ext M h w C h' (O.putObj B.l (.loop {xu B.L p with state:=.exhausted})):=D.ext.putObj (b:=B.l) (by show w.heap.size<=w.heap.size+1;omega) _;have J:(O.putObj B.l (.loop {xu B.L p with state:=.exhausted})).heap[w.heap.size]?=some (.deferred (some [])):=by
       rw[b! (by show w.heap.size≠w.heap.size+1;omega)];exact D.mrk
      generalize O.putObj B.l (.loop {xu B.L p with state:=.exhausted})=w4 at r4 z J;have m4:kS b ([{target:=.collected w.heap.size,args:= #[]}]++a.defers) w4:=by
       rw[show a.defers=Df from at_.plain];refine⟨w.heap.size,rfl,hb,J,λd' W e=>?_,hm.step at_.rel z⟩;exact Nat.lt_irrefl _ (hm.lt d' W _ e)
      have o:At keep G N ([{target:=.collected w.heap.size,args:= #[]}]++a.defers) C fr h' {a with defers:= [{target:=.collected w.heap.size,args:= #[]}]++a.defers} w4:=⟨r4,at_.fr.mono z.le,at_.size,rfl⟩
      cases p with
      |none=>
       subst e1;exact⟨C,_,m4,o,z⟩
      |some j=>
       cases j with
       |ret=>
        subst e1;exact wpIn_ret ⟨C,_,m4,o,z⟩
       |ex i=>
        subst e1;exact wpIn_exit ⟨rfl,C,_,m4,o,z⟩
    ·exact absurd e1.symm d
   ·exact absurd e1.symm d
  ·exact absurd e1.symm d
 ·exact absurd e1.symm d
def ranges:Code->Bool
 | .rangeFunc .. =>true
 | .seq a b=>ranges a||ranges b
 | .cond _ a b=>ranges a||ranges b
 | .block _ b=>ranges b
 |_=>false
def QE(P:Program)(G N:Nat)(keep:Nat->Bool)(e:FuncId->Option Fun)(d:NV)(pl:bY)(lf:Nat):Code->F->Hp->Out
 | .seq a b=>(match ranges (.seq a b) with
  |true=>aB (QE P G N keep e d pl lf a) (QE P G N keep e d pl lf b)
  |false=>lY P G N keep e pl lf (.seq a b))
 | .cond c a b=>(match ranges (.cond c a b) with
  |true=>aqA c (QE P G N keep e d pl lf a) (QE P G N keep e d pl lf b)
  |false=>lY P G N keep e pl lf (.cond c a b))
 | .block id b=>(match ranges (.block id b) with
  |true=>bD id (QE P G N keep e d pl lf b)
  |false=>lY P G N keep e pl lf (.block id b))
 | .rangeFunc g ps ca cb=>aCW d keep g ps.toList (lY P G N keep e pl lf ca) (lY P G N keep e pl lf cb)
 |c=>lY P G N keep e pl lf c
def anw(G:Nat)(g:Operand):Bool:=match g with| .global x=>J! x G|_=>true
def asb{g:Operand}(h:anw G g=true):∀x,g=.global x->x<G:=λx e=>by
 subst e;simpa[anw,A!]using h
def vY(G N:Nat):Code->Bool
 | .seq a b=>(match ranges (.seq a b) with|true=>vY G N a&&vY G N b|false=>codeOk G N (.seq a b))
 | .cond c a b=>(match ranges (.cond c a b) with|true=>anw G c&&(vY G N a&&vY G N b)|false=>codeOk G N (.cond c a b))
 | .block id b=>(match ranges (.block id b) with|true=>vY G N b|false=>codeOk G N (.block id b))
 | .rangeFunc g ps ca cb=>anw G g&&((ps.toList.all λt=>J! t N)&&(codeOk G N ca&&codeOk G N cb))
 |c=>codeOk G N c
def TU(j:P.follows .mixedOrders=true)(i:∀f F,e f=some F->aG P G f F){l:NV}(k:∀f I,l f=some I->Jk P G f I)(pl:bY)(lf:Nat):(c:Code)->vY G N c=true->pY P keep G N c (QE P G N keep e l pl lf c)
 | .seq a b,d=>by
  unfold vY at d;unfold QE;split at d
  ·rename_i hd;try rw[hd]
   simp only[d!]at d;exact .seq (TU j i k pl lf a d.1) (TU j i k pl lf b d.2)
  ·rename_i hd;try rw[hd]
   exact .lift (eF j i pl lf _ d)
 | .cond c a b,d=>by
  unfold vY at d;unfold QE;split at d
  ·rename_i hd;try rw[hd]
   simp only[d!]at d;exact .cond (asb d.1) (TU j i k pl lf a d.2.1) (TU j i k pl lf b d.2.2)
  ·rename_i hd;try rw[hd]
   exact .lift (eF j i pl lf _ d)
 | .block id b,d=>by
  unfold vY at d;unfold QE;split at d
  ·rename_i hd;try rw[hd]
   exact .block (TU j i k pl lf b d)
  ·rename_i hd;try rw[hd]
   exact .lift (eF j i pl lf _ d)
 | .rangeFunc g ps ca cb,d=>by
  unfold vY at d;simp only[d!,o!]at d;unfold QE;exact .range k (asb d.1) (λt m=>by simpa[A!]using d.2.1 t m) (eF j i pl lf _ d.2.2.1) (eF j i pl lf _ d.2.2.2)
 | .region _ _ _,d=>.lift (eF j i pl lf _ d)
 | .loop _,d=>.lift (eF j i pl lf _ d)
 | .skip,d=>.lift (eF j i pl lf _ d)
 | .label _,d=>.lift (eF j i pl lf _ d)
 | .exit _,d=>.lift (eF j i pl lf _ d)
 | .ret,d=>.lift (eF j i pl lf _ d)
 | .scope _,d=>.lift (eF j i pl lf _ d)
 | .goto _,d=>.lift (eF j i pl lf _ d)
 | .refuse _,d=>.lift (eF j i pl lf _ d)
def avU{fn:Func}{tmps:Array Value}{R:Ending->World->Prop}{n:Nat}{i:Mp}{h0:Hp}{g:World}:∀{Df:List Deferred} {h':Hp} {M':Mp} {w':World},kS g.heap.size Df w'->Rel G M' h' w'->Ext i h0 g M' h' w'->
  (∀a,Rel G M' h' a->Ext i h0 g M' h' a->∃v,(results fn tmps).run P a=.ok v a/\R (.returned v) a)->LeavesInM (iZ none) n P fn tmps R Df .returning w'
 | [],h',M',w',_,c,f,b=>b w' c f
 |d::ds,h',M',w',⟨r,k,l,j,m,o⟩,c,f,b=>
  ⟨by simp,.inl ⟨r,_,k,run_takeDeferred j,avU (o.put m) (c.putObj j rfl _) (f.putObj l _) b⟩⟩
def aIk(P:Program)(G:Nat)(keep:Nat->Bool)(e:FuncId->Option Fun)(a:NV)(pl:bY)(lf:Nat)(fn:Func):Fun:=match fn.body with
 |some c=>aY P keep fn.ntmps fn.results.toList (QE P G fn.ntmps keep e a pl lf c)
 |none=>λ_ _=>.bad
def aLa(E:P.follows .mixedOrders=true){f:FuncId}{fn:Func}{m:NV}{pl:bY}{lf:Nat}(C:∀f F,e f=some F->aG P G f F)(D:∀f I,m f=some I->Jk P G f I)(z:P.funcs[f]?=some fn)(j:((match fn.body with|some c=>vY G fn.ntmps c|none=>false)&&!(fn.name== "runtime.NumGoroutine"))=true):aG P G f (aIk P G keep e m pl lf fn):=by
 simp only[d!,C!]at j;unfold aIk;cases hb:fn.body with
 |none=>rw[hb]at j;cases j.1
 |some c=>
  rw[hb]at j;have y:=TU (keep:=keep) E C D pl lf c j.1;intro args h r h' M w cargs b H d;rw[afr z j.2 hb];simp only[Opq];simp only[aY]at b;split at b
  ·rename_i o;have l:=aAG (keep:=keep) (fn:=fn) H d (v! o);refine(aiN (ro:=none) (n:=0)).1 (callsIn_of_wp_marks z hb trivial ?_ rfl);cases e1:QE P G fn.ntmps keep e m pl lf c (FK keep 0 args .nil) h with
   |bad=>rw[e1]at b;cases b
   |ex i k u=>rw[e1]at b;cases b
   |nor k u=>
    rw[e1]at b;refine wpIn_mono (y 0 w.heap.size [] _ _ _ _ _ (by rw[e1];simp) (j! _) trivial l) ?_;intro x a' w' q;rw[e1]at q;cases x<;>simp only[zo]at q;obtain⟨M',Df,m',a,s⟩:=q;show LeavesInM _ _ _ _ _ _ a'.defers _ _;rw[show a'.defers=Df from a.plain];refine avU m' a.rel s λJ r2 t=>?_;obtain⟨rfl,v,p,g⟩:=Tc r2 a.fr b;exact⟨v,p,v,rfl,M',g,r2,t⟩
   |ret k u=>
    rw[e1]at b;refine wpIn_mono (y 0 w.heap.size [] _ _ _ _ _ (by rw[e1];simp) (j! _) trivial l) ?_;intro x a' w' q;rw[e1]at q;cases x<;>simp only[zo]at q;obtain⟨M',Df,m',a,s⟩:=q;show LeavesInM _ _ _ _ _ _ a'.defers _ _;rw[show a'.defers=Df from a.plain];refine avU m' a.rel s λJ r2 t=>?_;obtain⟨rfl,v,p,g⟩:=Tc r2 a.fr b;exact⟨v,p,v,rfl,M',g,r2,t⟩
  ·cases b
end
def aE4{P:Program}{G:Nat}:∀f I,(λ_=>none:NV) f=some I->Jk P G f I:=λ_ _ h=>by cases h
def avY{P:Program}{G:Nat}{g:FuncId}{I:an5}{e:NV}(b:Jk P G g I)(c:∀f F,e f=some F->Jk P G f F):∀f a,(λf=>match g! f g with|true=>some I|false=>e f:NV) f=some a->Jk P G f a:=by
 intro f a h;simp only[]at h;split at h
 ·rename_i hb;cases h;rw[a! hb];exact b
 ·exact c f a h
end Go.Vm
