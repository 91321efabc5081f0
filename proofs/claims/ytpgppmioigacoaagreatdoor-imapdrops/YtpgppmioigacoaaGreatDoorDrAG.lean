/- Lemmas that the claim's last text uses. No conditions. -/
import Derived.Test.YtpgppmioigacoaaGreatDoorDrAF
import Derived.Laws.LoneSync
import Derived.Recover
import Derived.ProofKit
import Derived.OpenShut
import Derived.ShutString
import Derived.ChangeOld
import Derived.Below
set_option linter.all false
open Nat renaming eq_of_beq_eq_true→a!,beq→b!,le_refl→h!,ne_of_beq_eq_false→n!,add_assoc→r!,blt_eq→v!,zero_add→A!,succ_mul→B!,blt→C!,le_of_ble_eq_true→D!,mul_le_mul_right→F!,lt_or_ge→T!,ble→U!
open Go.World renaming putObj_heap_other→c!,putObj_heap_same→y!,alloc_heap_new→z!,cell?→R!
open Array renaming getElem?_eq_some_iff→d!,getD_eq_getD_getElem?→i!,getElem?_eq_getElem→j!,replicate→l!,getElem?_push→q!,size_setIfInBounds→w!
open Bool renaming and_eq_true→e!,eq_iff_iff→u!,not_eq_true'→M!
open List renaming range'→g!,getElem?_eq_getElem→k!,getElem?_eq_none→o!,all_eq_true→t!,filterMap_cons_some→x!,mem_singleton→H!,getElem?_take→I!,getElem?_drop→J!,range'_succ→N!,mem_range'→O!,map_cons→Q!
open Go.Region renaming wanted→p!
noncomputable section
open Go.ChangeShapes Go.WideShapes Go.ChangeAt Go.RowKit
namespace Go.Vm
section
variable{P:Program}{G:Nat}{M:Mp}{h h':Hp}{w:World}{keep:Nat->Bool}{e:FuncId->Option Fun}{r:V}
def aHN(P:Program)(G:Nat)(f:FuncId)(F:Fun):Prop:=
 ∀(args:List V) (h:Hp) (r:V) (h':Hp) (M:Mp) (w:World) (cargs:List Value),F args h=.ok r h'->Rel G M h w->bU M args cargs->
  (callFunc f cargs.toArray).run P w=.ok (.enter f cargs.toArray) w/\
  CallsD P f cargs.toArray .returning w λe u w'=>u=.returning/\∃c,e=.returned c/\Post G M h w r h' c w'
def aBp(P:Program)(G:Nat)(f:FuncId)(F:Fun):Prop:=
 ∃fn c,P.funcs[f]?=some fn/\fn.body=some c/\(∀args w,(callFunc f args).run P w=.ok (.enter f args) w)/\
 ∀(args:List V) (h:Hp) (r:V) (h':Hp) (M:Mp) (w:World) (cargs:List Value),F args h=.ok r h'->Rel G M h w->bU M args cargs->
  c.wp P (bodyPost P fn λe w'=>∃c,e=.returned c/\Post G M h w r h' c w') {tmps:=cargs.toArray++l! (fn.ntmps - cargs.toArray.size) undef,defers:= []} w
theorem aBp.deferred{f:FuncId}{F:Fun}(hb:aBp P G f F):aHN P G f F:=by
 obtain⟨fn,c,a,b,d,g⟩:=hb;intro args h r h' M w cargs e j i;exact⟨d _ _,callsD_of_wp a b (g args h r h' M w cargs e j i)⟩
theorem acj{f:FuncId}{fn:Func}{c:Code}(b:P.funcs[f]?=some fn)(d:(fn.name== "runtime.NumGoroutine")=false)(hb:fn.body=some c)(args:Array Value)(w:World):
  (callFunc f args).run P w=.ok (.enter f args) w:=by
 unfold callFunc;rw[Sem.run_bind,run_program];have a:¬fn.name= "runtime.NumGoroutine" :=by simpa using d
 simp[b,a,hb]
theorem avd{fn:Func}{args:List V}{cargs:List Value}(m:Rel G M h w)(f:bU M args cargs)(l:args.length<=fn.ntmps):
  At keep G fn.ntmps [] M (DJ keep 0 args .nil) h {tmps:=cargs.toArray++l! (fn.ntmps - cargs.toArray.size) undef,defers:= []} w:=by
 have g:=f.length;refine⟨m,YE keep _ args 0 _ (λj v k=>?_) (λt v i=>by rw[T.get_nil]at i;cases i),by simp;omega,rfl⟩;obtain⟨x,d,c⟩:=f.get k;have b:j<cargs.length:=by
  rcases T! j cargs.length with a|a
  ·exact a
  ·rw[o! a]at d;cases d
 have:(cargs.toArray++l! (fn.ntmps - cargs.toArray.size) undef).getD (0+j) undef=x:=by
  rw[i!,Array.getElem?_append_left (by simpa using b)];simp[d]
 simp only[this];exact c
end
section
variable{P:Program}{G:Nat}
def levels(base:FuncId->Option Fun)(st:(FuncId->Option Fun)->FuncId->Option Fun):Nat->FuncId->Option Fun
 |0=>base
 |n+1=>st (levels base st n)
theorem anO{base:FuncId->Option Fun}{st:(FuncId->Option Fun)->FuncId->Option Fun}(hb:∀f F,base f=some F->aG P G f F)
  (a:∀e,(∀f F,e f=some F->aG P G f F)->∀f F,st e f=some F->aG P G f F):∀n f F,levels base st n f=some F->aG P G f F
 |0=>hb
 |n+1=>a _ (anO hb a n)
def axB(e:FuncId->Option Fun)(f:FuncId):Fun:=match e f with
 |some F=>F
 |none=>λ_ _=>.bad
theorem aBL{e:FuncId->Option Fun}(a:∀f F,e f=some F->aG P G f F)(f:FuncId):aG P G f (axB e f):=by
 unfold axB;cases h:e f with
 |some F=>exact a f F h
 |none=>intro args h r h' M w cargs e;cases e
end
section
variable{P:Program}{G:Nat}{M N:Mp}{h:Hp}{w:World}
theorem Seen.row(S:Seen G M h w){blk off:Nat}{cs:List V}(r:cs≠ [])(B:∀k v,cs[k]?=some v->∃x,w.cell? ⟨blk,off+k,none⟩=some x/\scalar x=true/\Rp M v x):
  ∃sz,Seen G (M.add h.next ⟨blk,off,sz⟩) (h.new (.cells .ro cs)) w/\M.le (M.add h.next ⟨blk,off,sz⟩):=by
 have m:M h.next=none:=S.rel.fresh _ (h! _);obtain⟨v0,u⟩:∃v,cs[0]?=some v:=by
  cases cs with
  |nil=>exact absurd rfl r
  |cons v l=>exact⟨v,rfl⟩
 obtain⟨X,n,-,-⟩:=B 0 v0 u;obtain⟨c,el,fr,hb⟩:∃c el fr,w.heap[blk]?=some (.cells c el fr):=by
  unfold R! at n;split at n
  ·rename_i c el fr hb;exact⟨c,el,fr,hb⟩
  ·cases n
 have a:=Mp.QG m ⟨blk,off,c.size⟩;refine⟨c.size,⟨⟨λi p hi=>?_,λi hi=>?_,λi j p q L K W hi U C y Q=>?_,λg E=>?_⟩,λi o hi=>?_⟩,a⟩
 ·by_cases e:i=h.next
  ·subst e;rw[h.pX]at hi;cases hi;refine⟨_,M.eF _ _,c,el,fr,hb,rfl,λk v I=>?_,trivial⟩;obtain⟨x,J,t,s⟩:=B k v I;refine⟨x,?_,s.mono a,t⟩;simpa[R!,hb]using J
  ·rw[h.jl e]at hi;obtain⟨L,y,s⟩:=S.rel.ob i p hi;exact⟨L,by rw[M.fQ e];exact y,s.mono a⟩
 ·have t:(h.new (.cells .ro cs)).next.nat=h.next.nat+1:=Pos.fA _;rw[t]at hi;have e:i≠h.next:=λe=>by rw[e]at hi;omega
  rw[M.fQ e];exact S.rel.fresh i (by omega)
 ·have D:i≠h.next:=by
   intro e;subst e;rw[h.pX]at hi;cases hi;cases C
  rw[h.jl D]at hi;have:=S.un i p hi;rw[C]at this;cases this
 ·obtain⟨z,O⟩:=S.rel.gl g E;exact⟨z,a _ _ O⟩
 ·by_cases e:i=h.next
  ·subst e;rw[h.pX]at hi;cases hi;rfl
  ·rw[h.jl e]at hi;exact S.un i o hi
variable{H:Type}{f:TypeId×Value->H}{base:Nat}{b:Nat->Bool}{d:Bool}
theorem azd{t e n g:Nat}{x:DataW H×List MemPlace}{cs:List Value}(ht:P.underlying t=some (.slice e))(hn:P.cellsOf e=n)(ad:0<n){Q:List V->Prop}
  (rd:∀g cs x,DataW.trod f P w base b d g e cs=some x->cs.length=n->∃vs,vs.length=n/\Q vs/\(∀N,bU N vs cs)/\∀y∈cs,scalar y=true)
  (hd:DataW.trod f P w base b d g t cs=some x) (S:Seen G M h w):
  ∃(c:Value) (v:V) (M':Mp) (h':Hp) (els:List (List V)),cs= [c]/\Rp M' v c/\Seen G M' h' w/\M.le M'/\(∀vs∈els,Q vs/\vs.length=n)/\els.length<=9223372036854775807/\
   ((v=.aQ/\h'=h/\els= [])\/(v=.emp/\h'=h/\els= [])\/(∃cap,v=.slice h.next 0 els.length (.kn cap)/\h'=h.new (.cells .ro els.flatten)/\0<els.length/\els.length<=cap)):=by
 rcases DataW.trod_slice ht hd with⟨rfl,rfl⟩|⟨a,len,cap,U,rest,m,rfl,rfl,rfl,hb,hl,hm,aj,X,-,-⟩
 ·exact⟨_,.aQ,M,h,[],rfl,⟨rfl,rfl⟩,S,Mp.le_refl _,λ_ h=>(by cases h),by simp,.inl ⟨rfl,rfl,rfl⟩⟩
 ·
  have each:∀i,i<len->∃vs,vs.length=n/\Q vs/\∀j v,vs[j]?=some v->∃x,w.cell? (a.add (i*n+j))=some x/\scalar x=true/\∀N,Rp N v x:=λi hi=>by
   have q:=X i hi;rw[hn,k! (by omega),Option.bind_eq_some_iff]at q;obtain⟨O,z,r⟩:=q;obtain⟨-,B,W⟩:=World.cells?_some z;obtain⟨vs,ag,ah,E,ai⟩:=rd m O _ r B;refine⟨vs,ag,ah,λj v Z=>?_⟩;have aa:j<n:=by
    have:=(List.getElem?_eq_some_iff.1 Z).1;omega
   have h5:(a.add (i*n)).add j=a.add (i*n+j):=by
    generalize i*n=p;by_cases e1:p=0<;>by_cases e2:j=0<;>simp[Addr.add,e1,e2,r!]
   have s:=W j aa;rw[h5]at s;obtain⟨x,u,hr⟩:=(E M).get Z;refine⟨x,by rw[s,u],ai x (List.mem_of_getElem? u),λN=>?_⟩;obtain⟨x',I,ae⟩:=(E N).get Z;rw[u]at I;cases I;exact ae
  by_cases h0:len=0
  ·subst h0;exact⟨_,.emp,M,h,[],rfl,⟨rfl,a,cap,rfl⟩,S,Mp.le_refl _,λ_ h=>(by cases h),by simp,.inr (.inl ⟨rfl,rfl,rfl⟩)⟩
  ·
   have all:∀l,l<=len->∃els:List (List V),els.length=l/\(∀vs∈els,Q vs/\vs.length=n)/\els.flatten.length=l*n/\∀k v,els.flatten[k]?=some v->∃x,w.cell? (a.add k)=some x/\scalar x=true/\∀N,Rp N v x:=by
    intro l;induction l with
    |zero=>intro _;exact⟨[],rfl,λ_ h=>(by cases h),by simp,λk v o=>by simp at o⟩
    |succ l ih=>
     intro B;obtain⟨els,q,z,r,s⟩:=ih (by omega);obtain⟨vs,g1,g2,g3⟩:=each l (by omega);refine⟨els++ [vs],by simp[q],λus D=>?_,by simp[r,g1,B!],λk v o=>?_⟩
     ·rcases List.mem_append.1 D with D|D
      ·exact z us D
      ·rw[H!.1 D];exact⟨g2,g1⟩
     ·rw[List.flatten_append,List.getElem?_append]at o;split at o
      ·exact s k v o
      ·rename_i Y;simp only[List.flatten_cons,List.flatten_nil,List.append_nil]at o;rw[r]at o Y;have:=g3 (k - l*n) v o;rwa[show l*n+(k - l*n)=k from by omega]at this
   obtain⟨els,q,z,r,s⟩:=all len (h! _);have C:els.flatten≠ []:=by
    intro e;rw[e]at r;have:0<len*n:=Nat.mul_pos (by omega) ad;simp at r;omega
   obtain⟨J,K,L⟩:=a;have has:L=none:=by
    obtain⟨v0,af⟩:∃v,els.flatten[0]?=some v:=by
     cases hf:els.flatten with
     |nil=>exact absurd hf C
     |cons v l=>exact⟨v,rfl⟩
    obtain⟨x,u,-,-⟩:=s 0 v0 af;simpa[Addr.add]using World.cell?_spot u
   subst has;obtain⟨sz,S',ac⟩:=S.row (blk:=J) (off:=K) C λk v o=>by
    obtain⟨x,u,hs,hr⟩:=s k v o;have ea:(Addr.mk J K none).add k=⟨J,K+k,none⟩:=by by_cases e1:k=0<;>simp[Addr.add,e1]
    exact⟨x,by rw[<-ea];exact u,hs,hr M⟩
   refine⟨_,.slice h.next 0 len (.kn cap),_,_,els,rfl,⟨rfl,_,cap,M.eF _ _,⟨rfl,hl⟩,rfl⟩,S',ac,z,by rw[q];unfold maxLen at hm;omega,.inr (.inr ⟨cap,by rw[q],rfl,by omega,by omega⟩)⟩
theorem aD8{e:TypeId}(c:P.underlying e=some .bool):∀a cs x,DataW.trod f P w base b d a e cs=some x->cs.length=1->∃vs:List V,vs.length=1/\(∃z,vs= [.bool z])/\(∀N,bU N vs cs)/\∀y∈cs,scalar y=true:=by
 intro a cs x g _;obtain⟨z,rfl,-⟩:=DataW.trod_bool c g;exact⟨[.bool z],rfl,⟨z,rfl⟩,λN=>⟨_,[],xP N z,rfl,rfl⟩,λy i=>by rw[H!.1 i];rfl⟩
end
def aCk:Fn->Fn->Bool
 | .func g,x=>(match x with| .func k=>b! g k|_=>false)
 |_,_=>false
theorem aEC{f g:Fn}(h:aCk f g=true):f=g:=by
 unfold aCk at h;split at h
 ·split at h
  ·rw[a! h]
  ·cases h
 ·cases h
def kC:V->V->Bool
 | .func f a b,x=>(match x with| .func g c d=>(match aCk f g with|true=>(match kC a c with|true=>kC b d|false=>false)|false=>false)|_=>false)
 | .agg l,x=>(match x with| .agg k=>kC l k|_=>false)
 | .tuple l,x=>(match x with| .tuple k=>kC l k|_=>false)
 | .iface t v,x=>(match x with| .iface u w=>(match b! t u with|true=>kC v w|false=>false)|_=>false)
 | .cons a b,x=>(match x with| .cons c d=>(match kC a c with|true=>kC b d|false=>false)|_=>false)
 |v,x=>eqV v x
theorem uN:∀(a b:V),kC a b=true->a=b
 | .func f a b,x,h=>by
  simp only[kC]at h;split at h
  ·split at h
   ·rename_i e1;split at h
    ·rename_i e2;rw[aEC e1,uN a _ e2,uN b _ h]
    ·cases h
   ·cases h
  ·cases h
 | .agg l,x,h=>by
  simp only[kC]at h;split at h
  ·rw[uN l _ h]
  ·cases h
 | .tuple l,x,h=>by
  simp only[kC]at h;split at h
  ·rw[uN l _ h]
  ·cases h
 | .iface t v,x,h=>by
  simp only[kC]at h;split at h
  ·split at h
   ·rename_i e1;rw[a! e1,uN v _ h]
   ·cases h
  ·cases h
 | .cons a b,x,h=>by
  simp only[kC]at h;split at h
  ·split at h
   ·rename_i e2;rw[uN a _ e2,uN b _ h]
   ·cases h
  ·cases h
 | .bool _,x,h=>by unfold kC at h;exact rO h
 | .int _ _,x,h=>by unfold kC at h;exact rO h
 | .str _,x,h=>by unfold kC at h;exact rO h
 | .ptr _ _,x,h=>by unfold kC at h;exact rO h
 | .bP,x,h=>by unfold kC at h;exact rO h
 | .slice _ _ _ _,x,h=>by unfold kC at h;exact rO h
 | .aQ,x,h=>by unfold kC at h;exact rO h
 | .emp,x,h=>by unfold kC at h;exact rO h
 | .map _,x,h=>by unfold kC at h;exact rO h
 | .jG,x,h=>by unfold kC at h;exact rO h
 | .fV,x,h=>by unfold kC at h;exact rO h
 | .nP,x,h=>by unfold kC at h;exact rO h
 | .nil,x,h=>by unfold kC at h;exact rO h
def eqL:List V->List V->Bool
 | [],x=>(match x with| []=>true|_::_=>false)
 |a::l,x=>(match x with| []=>false|b::k=>(match kC a b with|true=>eqL l k|false=>false))
theorem acR:∀{l k:List V},eqL l k=true->l=k
 | [],k,h=>by cases k with
  |nil=>rfl
  |cons a k=>cases h
 |a::l,k,h=>by
  cases k with
  |nil=>cases h
  |cons b k=>
   simp only[eqL]at h;split at h
   ·rename_i e;rw[uN _ _ e,acR h]
   ·cases h
def ax5:List (V×V)->List (V×V)->Bool
 | [],x=>(match x with| []=>true|_::_=>false)
 |a::l,x=>(match x with| []=>false|b::k=>(match kC a.1 b.1,kC a.2 b.2 with|true,true=>ax5 l k|_,_=>false))
theorem avi:∀{l k:List (V×V)},ax5 l k=true->l=k
 | [],k,h=>by cases k with
  |nil=>rfl
  |cons a k=>cases h
 |a::l,k,h=>by
  cases k with
  |nil=>cases h
  |cons b k=>
   simp only[ax5]at h;split at h
   ·rename_i e1 e2;obtain⟨a1,a2⟩:=a;obtain⟨b1,b2⟩:=b;have e1:=uN _ _ e1;have e2:=uN _ _ e2;simp only at e1 e2;rw[e1,e2,avi h]
   ·cases h
def aCi:Wr->Wr->Bool
 | .ro,x=>(match x with| .ro=>true| .rw _ _=>false)
 | .rw t f,x=>(match x with| .ro=>false| .rw u g=>(match b! t u with|true=>(match f,g with|true,true=>true|false,false=>true|true,false=>false|false,true=>false)|false=>false))
theorem aEA{a b:Wr}(h:aCi a b=true):a=b:=by
 cases a with
 |ro=>cases b with
  |ro=>rfl
  |rw t f=>cases h
 |rw t f=>cases b with
  |ro=>cases h
  |rw u g=>
   simp only[aCi]at h;split at h
   ·rename_i e;rw[a! e];cases f<;>cases g<;>first|rfl|cases h
   ·cases h
def UC(a b:Ob):Bool:=match a with
 | .cells w l=>(match b with| .cells u k=>(match aCi w u with|true=>eqL l k|false=>false)|_=>false)
 | .bytes l=>(match b with| .bytes k=>eqL l k|_=>false)
 | .map l=>(match b with| .map k=>ax5 l k|_=>false)
 |_=>false
theorem avh{a b:Ob}(h:UC a b=true):a=b:=by
 unfold UC at h;split at h
 ·split at h
  ·split at h
   ·rename_i e;rw[aEA e,acR h]
   ·cases h
  ·cases h
 ·split at h
  ·rw[acR h]
  ·cases h
 ·split at h
  ·rw[avi h]
  ·cases h
 ·cases h
section
variable{P:Program}{G:Nat}
def aro(c:Nat):List Nat->Nat
 | []=>0
 |d::l=>(match b! d c with|true=>Nat.succ (aro c l)|false=>aro c l)
theorem avp{c:Nat}(a:c<256):∀{l:List Nat},(∀b∈l,b<256)->aro c l=Go.Lib.countByte (l.map UInt8.ofNat) (UInt8.ofNat c)
 | [],_=>rfl
 |d::l,h=>by
  have g:=h d (by simp);have f:=avp a (l:=l) λb hb=>h b (by simp[hb]);have e:(UInt8.ofNat d==UInt8.ofNat c)=b! d c:=by
   rw[u!];simp only[beq_iff_eq];exact⟨λh=>by rw[Fp g a h];exact Nat.beq_refl c,λh=>by rw[a! h]⟩
  unfold Go.Lib.countByte at f⊢;rw[Q!,List.count_cons,e];simp only[aro];cases b! d c<;>simp[f]
def cntF:Fun:=λargs h=>match args with
 | [s,c]=>(match s with
  | .str l=>(match c with
   | .int k n=>(match b! (kix k) 4 with
    |true=>(match n with
     | .ofNat b=>(match C! b 256 with|true=>iy .i64 (.ofNat (aro b l)) h|false=>.bad)
     | .negSucc _=>.bad)
    |false=>.bad)
   |_=>.bad)
  |_=>.bad)
 |_=>.bad
theorem aEL{f:FuncId}{fn:Func}(v:P.funcs[f]?=some fn)(d:(fn.name== "runtime.NumGoroutine")=false)(hb:fn.body.isNone=true)(y:Extern.findNext fn=none)(u:Extern.find fn=some Extern.BytealgCount.count):aG P G f cntF:=by
 intro args h r h' M w cargs e t a;unfold cntF at e;split at e
 ·rename_i s c;split at e
  ·rename_i l;split at e
   ·rename_i k n;split at e
    ·rename_i x;have p:k=.u8:=by cases k<;>first|rfl|cases x
     subst p;split at e
     ·rename_i b;split at e
      ·rename_i i;have j:b<256:=by simpa[v!]using i
       obtain⟨cs,C,o,⟨B,z,m,q,rfl⟩,rfl⟩:=a;rw[show z= [] from q];obtain⟨hl,rfl⟩:=o.str;have g:=m.int;subst g;rw[fU]at e;cases e;rw[run_callFunc_extern v d hb y u,Go.Lib.run_countString];simp only[Result.andThen,Opq];refine⟨M,?_,t,.refl t⟩;have e1:(bts l).data.toList=l.map UInt8.ofNat:=by simp[bts]
       have e2:((Int.ofNat b).toNat.toUInt8)=UInt8.ofNat b:=rfl;rw[e1,e2,<-avp j hl];exact gB M _ _
      ·cases e
     ·cases e
    ·cases e
   ·cases e
  ·cases e
 ·cases e
end
section
variable{P:Program}{G N:Nat}{M M':Mp}{h h':Hp}{w w':World}{keep:Nat->Bool}{e:FuncId->Option Fun}
theorem Pos.QA(p:Pos):Pos.of p.nat=p:=Pos.uK (Pos.gG _)
def apk:Obj->Bool
 | .loop _=>true
 | .deferred _=>true
 |_=>false
theorem jM.hidden{L:Loc}{o:Ob}(d:jM M L w o){b:Obj}(hb:w.heap[L.blk]?=some b):apk b=false:=by
 cases o with
 |cells wr cs=>obtain⟨c,el,fr,a,_⟩:=d;rw[a]at hb;cases hb;rfl
 |map es=>obtain⟨en,f,a,_⟩:=d;rw[a]at hb;cases hb;rfl
 |iter s p=>rw[d.2]at hb;cases hb;rfl
 |bytes cs=>obtain⟨c,el,fr,a,_⟩:=d;rw[a]at hb;cases hb;rfl
theorem Rel.hidden(f:Rel G M h w){b:Nat}{ob:Obj}(hb:w.heap[b]?=some ob)(hh:apk ob=true){i:Pos}{o:Ob}{L:Loc}(hi:h.get i=some o)(c:M i=some L):L.blk≠b:=by
 intro e;subst e;obtain⟨g,a,d⟩:=f.ob i o hi;rw[c]at a;cases a;rw[d.hidden hb]at hh;cases hh
theorem Rel.kept(c:Rel G M h w)(x:Ext M h w M' h' w'){b:Nat}{ob:Obj}(hb:w.heap[b]?=some ob)(hh:apk ob=true):w'.heap[b]?=some ob:=by
 rw[x.same b (d!.1 hb).1 λi o L hi _ a=>c.hidden hb hh hi a];exact hb
theorem Rel.putObj(a:Rel G M h w){b:Nat}{ob:Obj}(hb:w.heap[b]?=some ob)(hh:apk ob=true)(o':Obj):Rel G M h (w.putObj b o'):=by
 refine⟨λi o hi=>?_,a.fresh,a.sep,a.gl⟩;obtain⟨L,c,d⟩:=a.ob i o hi;exact⟨L,c,d.of_block (c! (a.hidden hb hh hi c))⟩
theorem Rel.QS(a:Rel G M h w)(ob:Obj):Rel G M h (w.alloc ob):=by
 refine⟨λi o hi=>?_,a.fresh,a.sep,a.gl⟩;obtain⟨L,c,b⟩:=a.ob i o hi;refine⟨L,c,b.of_block ?_⟩;show(w.heap.push ob)[L.blk]?=w.heap[L.blk]?;rw[q!,if_neg (by have:=b.lt;omega)]
theorem Ext.putObj{d:Mp}{h0:Hp}{c:World}(x:Ext d h0 c M h w){b:Nat}(hb:c.heap.size<=b)(o':Obj):Ext d h0 c M h (w.putObj b o'):=
 ⟨x.le,x.next,x.os,x.tape,x.output,by rw[World.putObj_size];exact x.size,λk f a=>by rw[c! (by omega)];exact x.same k f a,x.own,x.old,x.all,x.none⟩
theorem Ext.QS{c:Mp}{h0:Hp}{b:World}(x:Ext c h0 b M h w)(ob:Obj):Ext c h0 b M h (w.alloc ob):=
 ⟨x.le,x.next,x.os,x.tape,x.output,by have:=x.size;show b.heap.size<=(w.heap.push ob).size;rw[Array.size_push];omega,λk d a=>by
  rw[<-x.same k d a];show(w.heap.push ob)[k]?=w.heap[k]?;have:=x.size;rw[q!,if_neg (by omega)],x.own,x.old,x.all,x.none⟩
theorem azR(a:Rel G M h w)(L:Loc):Rel G (M.add h.next L) (aI 1 h) w/\Ext M h w (M.add h.next L) (aI 1 h) w:=by
 have k:M h.next=none:=a.fresh _ (h! _);have d:=Mp.QG k L;have l:(aI 1 h).next=h.next.succ:=rfl;have x:∀i,(aI 1 h).get i=h.get i:=λ_=>rfl;refine⟨⟨λi o hi=>?_,λi hi=>?_,λi j o p A B f hi u m c t=>?_,λg r=>?_⟩,⟨d,?_,rfl,rfl,rfl,h! _,λ_ _ _=>rfl,λi o A hi m c=>?_,λi _ f=>f,λi o A hi c=>?_,λi hi f=>?_⟩⟩
 ·obtain⟨A,c,m⟩:=a.ob i o hi;exact⟨A,d _ _ c,m.mono d⟩
 ·rw[l,Pos.fA]at hi;rw[M.fQ (λe=>by rw[e]at hi;omega)];exact a.fresh i (by omega)
 ·obtain⟨s,b,_⟩:=a.ob i o hi;obtain⟨v,q,_⟩:=a.ob j p u;rw[M.fQ (a.ne_next b)]at c;rw[M.fQ (a.ne_next q)]at t;exact a.sep i j o p A B f hi u m c t
 ·obtain⟨n,f⟩:=a.gl g r;exact⟨n,d _ _ f⟩
 ·rw[l,Pos.fA];omega
 ·obtain⟨s,b,_⟩:=a.ob i o hi;rw[M.fQ (a.ne_next b)]at c;exact .inr ⟨i,o,A,hi,m,c,rfl⟩
 ·obtain⟨s,b,_⟩:=a.ob i o hi;rw[M.fQ (a.ne_next b)]at c;exact .inr ⟨i,o,A,hi,c,rfl⟩
 ·rw[M.fQ (λe=>by rw[e]at hi;omega)];exact f
inductive Jmp where
 |ret
 |ex (i:Nat)
def Jmp.code:Jmp->Code
 | .ret=>.ret
 | .ex i=>.exit i
inductive YR where
 |go (h:Hp)
 |stop (j:Jmp) (h:Hp)
 |bad
def vU(L:Loop)(p:Option Jmp):Loop:={L with state:=(match p with|none=>.ready|some _=>.done),pending:=p.map Jmp.code}
structure Rng where
 M:Mp
 h:Hp
 w:World
 kp:Pos
 l:Nat
 L:Loop
structure Goes (B:Rng) (p:Option Jmp) (M:Mp) (h:Hp) (w:World):Prop where
 ext:Ext B.M B.h B.w M h w
 ky:M B.kp=some ⟨B.l,0,0⟩
 hl:B.w.heap.size<B.l
 st:w.heap[B.l]?=some (.loop (vU B.L p))
 mrk:w.heap[B.w.heap.size]?=some (.deferred (some []))
theorem Goes.step{B:Rng}{p:Option Jmp}(g:Goes B p M h w)(a:Rel G M h w)(x:Ext M h w M' h' w'):Goes B p M' h' w':=
 ⟨g.ext.trans x,x.le _ _ g.ky,g.hl,a.kept x g.st rfl,a.kept x g.mrk rfl⟩
def ai0(keep:Nat->Bool):List Nat->List V->F->Option F
 | [],x,fr=>(match x with| []=>some fr|_::_=>none)
 |t::ts,x,fr=>(match x with
  | []=>none
  |v::vs=>(match keep t with|true=>ai0 keep ts vs (fr.set (some v) (Pos.of t))|false=>none))
def aiJ(keep:Nat->Bool)(ps:List Nat)(a b:F->Hp->Out)(fr:F)(args:List V)(h:Hp):YR:=match ai0 keep ps args fr with
 |none=>.bad
 |some fr=>(match a fr h with
  | .nor fr h=>(match b fr h with
   | .nor _ h=>.go h
   | .ret _ h=>.stop .ret h
   | .ex i _ h=>.stop (.ex i) h
   | .bad=>.bad)
  |_=>.bad)
def aIA(Rq:Option Jmp->Hp->Prop):YR->Prop
 | .go h=>Rq none h
 | .stop j h=>Rq (some j) h
 | .bad=>False
theorem apR{keep:Nat->Bool}:∀{ps:List Nat} {args:List V} {cargs:List Value} {fr d:F} {tmps:Array Value},ai0 keep ps args fr=some d->(∀t∈ps,t<tmps.size)->bU M args cargs->
  J7 keep M fr {tmps:=tmps,defers:= []}->
  cargs.length=ps.length/\J7 keep M d {tmps:=(ps.zip cargs).foldl (λtmps (t,a)=>tmps.setIfInBounds t a) tmps,defers:= []}/\((ps.zip cargs).foldl (λtmps (t,a)=>tmps.setIfInBounds t a) tmps).size=tmps.size
 | [],args,cargs,fr,d,tmps,b,_,j,k=>by
  cases args with
  |nil=>cases b;cases(show cargs= [] from j);exact⟨rfl,k,rfl⟩
  |cons v vs=>cases b
 |t::ts,args,cargs,fr,d,tmps,b,f,j,k=>by
  cases args with
  |nil=>cases b
  |cons v vs=>
   obtain⟨c,cs,rfl,q,n⟩:=bU.cons_inv j;simp only[ai0]at b;cases m:keep t with
   |false=>rw[m]at b;cases b
   |true=>
    rw[m]at b;have p:t<tmps.size:=f t (by simp);have l:J7 keep M (fr.set (some v) (Pos.of t)) {tmps:=tmps.setIfInBounds t c,defers:= []}:=by
     intro u x i;by_cases g:u=t
     ·subst g;rw[T.nR]at i;cases i;refine⟨m,?_⟩;simp only[i!];rw[Array.getElem?_setIfInBounds_self_of_lt p];exact q
     ·rw[T.rJ _ (λe=>g (Pos.acw e))]at i;obtain⟨a1,a2⟩:=k u x i;refine⟨a1,?_⟩;simp only[i!]at a2⊢;rw[Array.getElem?_setIfInBounds_ne (Ne.symm g)];exact a2
    obtain⟨b1,b2,o⟩:=apR (tmps:=tmps.setIfInBounds t c) b (λu g=>by rw[w!];exact f u (by simp[g])) n l;refine⟨by simp[b1],by simpa using b2,?_⟩;have:(((t::ts).zip (c::cs)).foldl (λtmps (t,a)=>tmps.setIfInBounds t a) tmps)=((ts.zip cs).foldl (λtmps (t,a)=>tmps.setIfInBounds t a) (tmps.setIfInBounds t c)):=by simp
    rw[this,o,w!]
theorem aBG{B:Rng}{fr0:F}{Q S:F->Hp->Out}(hA:dX P keep G N B.L.assign Q)(hB:dX P keep G N B.L.body S)(hf:J7 keep B.M fr0 {tmps:=B.L.tmps,defers:= []})(hN:B.L.tmps.size=N)
  (Z:∀t∈B.L.params.toList,t<N) {args:List V} {cargs:List Value} (hr:Rel G M h w) (ha:bU M args cargs) (g:Goes B none M h w) {n:Nat} {R:Ending->World->Prop}
  (c:aIA (λp h'=>∀M' w',M.le M'->Rel G M' h' w'->Goes B p M' h' w'->R (.returned (.bool p.isNone)) w') (aiJ keep B.L.params.toList Q S fr0 args h)):
  cargs.toArray.size=B.L.params.size/\RoundIn (iM none) n P B.l B.L.fn ((B.L.params.zip cargs.toArray).foldl (λtmps (t,a)=>tmps.setIfInBounds t a) B.L.tmps) B.L.assign B.L.body w R:=by
 unfold aiJ at c;cases e1:ai0 keep B.L.params.toList args fr0 with
 |none=>rw[e1]at c;exact c.elim
 |some v=>
  rw[e1]at c;simp only[]at c;obtain⟨s1,s2,s3⟩:=apR (tmps:=B.L.tmps) e1 (λt ht=>by rw[hN];exact Z t ht) ha (hf.mono g.ext.le);have hz:(B.L.params.zip cargs.toArray).foldl (λtmps (t,a)=>tmps.setIfInBounds t a) B.L.tmps=(B.L.params.toList.zip cargs).foldl (λtmps (t,a)=>tmps.setIfInBounds t a) B.L.tmps:=by
   rw[<-Array.foldl_toList];simp
  refine⟨by simpa using s1,?_⟩;rw[hz];refine roundIn_of_wpIn trivial ?_;have W:At keep G N [] M v h {tmps:=(B.L.params.toList.zip cargs).foldl (λtmps (t,a)=>tmps.setIfInBounds t a) B.L.tmps,defers:= []} w:=⟨hr,s2,by rw[s3,hN],rfl⟩
  have aa:=hA (some B.l) n [] v h M _ w (by intro e2;rw[e2]at c;exact c) W;refine wpIn_mono aa ?_;intro x a1 K q;cases e2:Q v h with
  |bad=>rw[e2]at c;exact c.elim
  |ret k E=>rw[e2]at c;exact c.elim
  |ex i k E=>rw[e2]at c;exact c.elim
  |nor k E=>
   rw[e2]at c q;simp only[]at c;cases x<;>simp only[jc]at q;obtain⟨U,at1,O⟩:=q;have D:=g.step hr O;refine⟨_,run_beginRound D.st rfl,?_⟩;have Y:B.l<K.heap.size:=(d!.1 D.st).1
   have r2:=at1.rel.putObj D.st rfl (.loop {vU B.L none with state:=.busy});have u:(K.putObj B.l (.loop {vU B.L none with state:=.busy})).heap[B.l]?=some (.loop {vU B.L none with state:=.busy}):=y! Y;have s:(K.putObj B.l (.loop {vU B.L none with state:=.busy})).heap[B.w.heap.size]?=some (.deferred (some [])):=by
    rw[c! (by have:=g.hl;omega)];exact D.mrk
   have J:=D.ext.putObj (b:=B.l) (by have:=g.hl;omega) (.loop {vU B.L none with state:=.busy});generalize K.putObj B.l (.loop {vU B.L none with state:=.busy})=w2 at r2 u s J;have X:At keep G N [] U k E a1 w2:=⟨r2,at1.fr,at1.size,at1.plain⟩
   have ab:=hB (some B.l) n [] k E U a1 w2 (by intro C;rw[C]at c;exact c) X;refine wpIn_mono ab ?_;intro y a3 z r;have fin:∀(p:Option Jmp) d m,Rel G d m z->Ext U E w2 d m z->(Instr.endRound B.l (p.map Jmp.code)).run P z=.ok (.bool p.isNone) (z.putObj B.l (.loop (vU B.L p)))/\Rel G d m (z.putObj B.l (.loop (vU B.L p)))/\Goes B p d m (z.putObj B.l (.loop (vU B.L p))):=by
    intro p d m r3 f;have o:=r2.kept f u rfl;have I:B.l<z.heap.size:=(d!.1 o).1;refine⟨?_,r3.putObj o rfl _,?_⟩
    ·rw[run_endRound _ o];cases p<;>rfl
    ·refine⟨(J.trans f).putObj (by have:=g.hl;omega) _,f.le _ _ D.ky,g.hl,y! I,?_⟩;rw[c! (by have:=g.hl;omega)];exact r2.kept f s rfl
   cases C:S k E with
   |bad=>rw[C]at c;exact c.elim
   |nor H m=>
    rw[C]at c r;cases y<;>simp only[jc]at r;obtain⟨d,j,f⟩:=r;obtain⟨f1,f2,f3⟩:=fin none d m j.rel f;exact⟨_,_,f1,c d _ (Mp.le_trans O.le f.le) f2 f3⟩
   |ret H m=>
    rw[C]at c r;cases y<;>simp only[jc]at r;obtain⟨d,j,f⟩:=r;obtain⟨f1,f2,f3⟩:=fin (some .ret) d m j.rel f;exact⟨_,_,f1,c d _ (Mp.le_trans O.le f.le) f2 f3⟩
   |ex i H m=>
    rw[C]at c r;cases y<;>simp only[jc]at r;obtain⟨ej,d,j,f⟩:=r;subst ej;obtain⟨f1,f2,f3⟩:=fin (some (.ex _)) d m j.rel f;exact⟨_,_,f1,c d _ (Mp.le_trans O.le f.le) f2 f3⟩
end
section
variable{P:Program}{G N:Nat}{M M':Mp}{h h':Hp}{w w':World}{keep:Nat->Bool}{e:FuncId->Option Fun}{B:Rng}
inductive OutI where
 |nor (fr:F) (h:Hp) (p:Option Jmp)
 |ret (fr:F) (h:Hp) (p:Option Jmp)
 |ex (i:Nat) (fr:F) (h:Hp) (p:Option Jmp)
 |bad
abbrev xZ:=F->Hp->Option Jmp->OutI
def X6(o:Out)(p:Option Jmp):OutI:=match o with
 | .nor fr h=>.nor fr h p
 | .ret fr h=>.ret fr h p
 | .ex i fr h=>.ex i fr h p
 | .bad=>.bad
def YB(D:F->Hp->Out):xZ:=λfr h p=>X6 (D fr h) p
def aBC(a b:xZ):xZ:=λfr h p=>match a fr h p with
 | .nor fr h p=>b fr h p
 | .ret fr h p=>.ret fr h p
 | .ex i fr h p=>.ex i fr h p
 | .bad=>.bad
def aCn(c:Operand)(a b:xZ):xZ:=λfr h p=>match c with
 | .tmp t=>(match fr.get (Pos.of t) with
  |some v=>(match v with| .bool q=>(match q with|true=>a fr h p|false=>b fr h p)|_=>.bad)
  |none=>.bad)
 |_=>.bad
def aCs(id:Nat)(b:xZ):xZ:=λfr h p=>match b fr h p with
 | .nor fr h p=>.nor fr h p
 | .ret fr h p=>.ret fr h p
 | .ex i fr h p=>(match b! i id with|true=>.nor fr h p|false=>.ex i fr h p)
 | .bad=>.bad
def aeI(b:xZ)(n:Nat):xZ:=
 Nat.rec (motive:=λ_=>xZ) (λ_ _ _=>.bad) (λ_ a fr h p=>match b fr h p with
  | .nor fr h p=>a fr h p
  | .ret fr h p=>.ret fr h p
  | .ex i fr h p=>.ex i fr h p
  | .bad=>.bad) n
def avb(o:Oper):Bool:=match o.op with
 | .call c=>(match c.callee with
  | .value f=>(match f with| .tmp _=>true|_=>false)
  |_=>false)
 |_=>false
def yIdx:List Oper->Option Nat
 | []=>none
 |o::l=>(match avb o with
  |true=>some 0
  |false=>(match yIdx l with|some j=>some (j+1)|none=>none))
def aqD(l:List Oper):Bool:=l.all λo=>match o.guard with|none=>true|some _=>false
def axd(o:Oper)(fr:F)(k:Nat):Option (List V):=match o.op with
 | .call c=>(match c.callee with
  | .value f=>(match aeA fr (f::c.args.toList) with
   |some vs=>(match vs with
    |g::args=>(match g with
     | .func fn x y=>(match x,y with
      | .nil,.nil=>(match fn with
       | .yield a=>(match b! k a with|true=>some args|false=>none)
       |_=>none)
      |_,_=>none)
     |_=>none)
    | []=>none)
   |none=>none)
  |_=>none)
 |_=>none
def aBH(P:Program)(keep:Nat->Bool)(e:FuncId->Option Fun)(Y:List V->Hp->YR)(k:Nat)(ops:Array Oper):xZ:=λfr h p=>match p with
 |some _=>.bad
 |none=>(match yIdx ops.toList with
  |none=>.bad
  |some j=>(match ops[j]? with
   |none=>.bad
   |some o=>(match aqD ops.toList with
    |false=>.bad
    |true=>(match oD P keep e ops (ops.toList.take j) [] fr h with
     | .nor a c=>(match axd o a k with
      |none=>.bad
      |some args=>(match Y args c with
       | .go b=>X6 (wB keep o.dst (.bool true) [] a λenv fr=>oD P keep e ops (ops.toList.drop (j+1)) env fr b) none
       | .stop q b=>X6 (wB keep o.dst (.bool false) [] a λenv fr=>oD P keep e ops (ops.toList.drop (j+1)) env fr b) (some q)
       | .bad=>.bad))
     |_=>.bad))))
def yields:Code->Bool
 | .region _ ops _=>ops.toList.any avb
 | .seq a b=>yields a||yields b
 | .cond _ a b=>yields a||yields b
 | .block _ b=>yields b
 | .loop b=>yields b
 | .scope b=>yields b
 |_=>false
def FH(P:Program)(G N:Nat)(keep:Nat->Bool)(e:FuncId->Option Fun)(pl:bV)(lf:Nat)(Y:List V->Hp->YR)(k:Nat):Code->xZ
 | .seq a b=>(match yields (.seq a b) with
  |true=>aBC (FH P G N keep e pl lf Y k a) (FH P G N keep e pl lf Y k b)
  |false=>YB (kV P G N keep e pl lf (.seq a b)))
 | .cond c a b=>(match yields (.cond c a b) with
  |true=>aCn c (FH P G N keep e pl lf Y k a) (FH P G N keep e pl lf Y k b)
  |false=>YB (kV P G N keep e pl lf (.cond c a b)))
 | .block id b=>(match yields (.block id b) with
  |true=>aCs id (FH P G N keep e pl lf Y k b)
  |false=>YB (kV P G N keep e pl lf (.block id b)))
 | .loop b=>(match yields (.loop b) with
  |true=>aeI (FH P G N keep e pl lf Y k b) lf
  |false=>YB (kV P G N keep e pl lf (.loop b)))
 | .region id ops d=>(match yields (.region id ops d) with
  |true=>(match d with|false=>aBH P keep e Y k ops|true=>λ_ _ _=>.bad)
  |false=>YB (kV P G N keep e pl lf (.region id ops d)))
 |c=>YB (kV P G N keep e pl lf c)
structure AtI (keep:Nat->Bool) (G N:Nat) (B:Rng) (p:Option Jmp) (M:Mp) (fr:F) (h:Hp) (a:Act) (w:World):Prop where
 at_:At keep G N [] M fr h a w
 goes:Goes B p M h w
def qG(keep:Nat->Bool)(G N:Nat)(B:Rng):OutI->Exit->Act->World->Prop
 | .nor fr h p,.normal,a,w=>∃M,AtI keep G N B p M fr h a w
 | .ret fr h p,.ret,a,w=>∃M,AtI keep G N B p M fr h a w
 | .ex i fr h p,.exit j,a,w=>j=i/\∃M,AtI keep G N B p M fr h a w
 |_,_,_,_=>False
def kD(P:Program)(keep:Nat->Bool)(G N:Nat)(B:Rng)(c:Code)(I:xZ):Prop:=
 ∀n p fr h M a w,I fr h p≠ .bad->AtI keep G N B p M fr h a w->c.wpIn (iM none) n P (qG keep G N B (I fr h p)) a w
def YOk(P:Program)(G:Nat)(B:Rng)(Y:List V->Hp->YR):Prop:=
 ∀(args:List V) (cargs:List Value) (h:Hp) (M:Mp) (w:World) (n:Nat) (R:Ending->World->Prop),Rel G M h w->bU M args cargs->Goes B none M h w->
  aIA (λp h'=>∀M' w',M.le M'->Rel G M' h' w'->Goes B p M' h' w'->R (.returned (.bool p.isNone)) w') (Y args h)->
  cargs.toArray.size=B.L.params.size/\RoundIn (iM none) n P B.l B.L.fn ((B.L.params.zip cargs.toArray).foldl (λtmps (t,a)=>tmps.setIfInBounds t a) B.L.tmps) B.L.assign B.L.body w R
theorem aqa{p:Option Jmp}{Df:Unit}{M:Mp}{h:Hp}{w:World}(c:Rel G M h w)(g:Goes B p M h w){o:Out}:∀x a' w',jc keep G N [] M h w o x a' w'->qG keep G N B (X6 o p) x a' w':=by
 intro x a' w' q;cases o<;>cases x<;>simp only[jc]at q
 ·obtain⟨M',a,b⟩:=q;exact⟨M',a,g.step c b⟩
 ·obtain⟨M',a,b⟩:=q;exact⟨M',a,g.step c b⟩
 ·obtain⟨e1,M',a,b⟩:=q;exact⟨e1,M',a,g.step c b⟩
theorem aqb{o:Out}{p:Option Jmp}(a:X6 o p≠ .bad):o≠ .bad:=λe=>by rw[e]at a;exact a rfl
theorem kD.lift{c:Code}{D:F->Hp->Out}(d:dX P keep G N c D):kD P keep G N B c (YB D):=λn p fr h M a w b at_=>
 wpIn_mono (d none n [] fr h M a w (aqb b) at_.at_) (aqa (Df:=()) at_.at_.rel at_.goes)
theorem kD.seq{c d:Code}{I J:xZ}(k:kD P keep G N B c I)(m:kD P keep G N B d J):kD P keep G N B (.seq c d) (aBC I J):=by
 intro n p fr h M a w b at_;refine wpIn_seq ?_;unfold aBC at b⊢;cases e1:I fr h p with
 |bad=>rw[e1]at b;exact absurd rfl b
 |nor f j l=>
  rw[e1]at b;refine wpIn_mono (k n p fr h M a w (by rw[e1];simp) at_) ?_;intro x a' w' q;rw[e1]at q;cases x<;>simp only[qG]at q;obtain⟨M',g⟩:=q;exact m n l f j M' a' w' b g
 |ret f j l=>
  refine wpIn_mono (k n p fr h M a w (by rw[e1];simp) at_) ?_;intro x a' w' q;rw[e1]at q;cases x<;>simp only[qG]at q;exact q
 |ex i f j l=>
  refine wpIn_mono (k n p fr h M a w (by rw[e1];simp) at_) ?_;intro x a' w' q;rw[e1]at q;cases x<;>simp only[qG]at q;exact q
theorem kD.cond{x:Operand}{c d:Code}{I J:xZ}(j:kD P keep G N B c I)(k:kD P keep G N B d J):kD P keep G N B (.cond x c d) (aCn x I J):=by
 intro n p fr h M a w b at_;cases x with
 |tmp t=>
  simp only[aCn]at b⊢;cases i:fr.get (Pos.of t) with
  |none=>rw[i]at b;exact absurd rfl b
  |some v=>
   rw[i]at b;cases v<;>try exact absurd rfl b
   rename_i q;have hb:=(at_.at_.fr t _ i).2.bool;cases q
   ·exact wpIn_cond_false (show a.eval (.tmp t)=.bool false from hb) (k n p fr h M a w b at_)
   ·exact wpIn_cond_true (show a.eval (.tmp t)=.bool true from hb) (j n p fr h M a w b at_)
 |const c=>exact absurd rfl b
 |global g=>exact absurd rfl b
 |func f=>exact absurd rfl b
theorem kD.block{id:Nat}{c:Code}{I:xZ}(f:kD P keep G N B c I):kD P keep G N B (.block id c) (aCs id I):=by
 intro n p fr h M a w b at_;refine wpIn_block ?_;unfold aCs at b⊢;cases e1:I fr h p with
 |bad=>rw[e1]at b;exact absurd rfl b
 |nor d g j=>
  refine wpIn_mono (f n p fr h M a w (by rw[e1];simp) at_) ?_;intro x a' w' q;rw[e1]at q;cases x<;>simp only[qG]at q;exact q
 |ret d g j=>
  refine wpIn_mono (f n p fr h M a w (by rw[e1];simp) at_) ?_;intro x a' w' q;rw[e1]at q;cases x<;>simp only[qG]at q;exact q
 |ex i d g j=>
  refine wpIn_mono (f n p fr h M a w (by rw[e1];simp) at_) ?_;intro x a' w' q;rw[e1]at q;cases x<;>simp only[qG]at q;obtain⟨rfl,q⟩:=q;simp only[Exit.inBlock];cases hb:b! _ id with
  |true=>rw[if_pos (a! hb)];exact q
  |false=>rw[if_neg (n! hb)];exact⟨rfl,q⟩
theorem axR(b:xZ)(n:Nat)(fr:F)(h:Hp)(p:Option Jmp):aeI b (n+1) fr h p=(match b fr h p with
  | .nor fr h p=>aeI b n fr h p
  | .ret fr h p=>.ret fr h p
  | .ex i fr h p=>.ex i fr h p
  | .bad=>.bad):=rfl
theorem kD.loop{c:Code}{I:xZ}(S:kD P keep G N B c I)(n:Nat):kD P keep G N B (.loop c) (aeI I n):=by
 intro L p fr h M a w v at_;generalize E:aeI I n fr h p=out at v
 let J:Nat->Act->World->Prop:=λm a' w'=>∃j h' s M',aeI I m j h' s=out/\AtI keep G N B s M' j h' a' w'
 intro b k cs U hb z;have key:∀(n:Nat) a' w',J n a' w'->∃e C H,qG keep G N B out e C H/\ArrivesIn (Machine.fenced P (iM none)) P (lone (b.atR a' (.code c:: .inLoop c::k)) cs w') b k cs e C H:=by
  intro n;induction n with
  |zero=>rintro a' w' ⟨j,h',s,M',e,-⟩;exact absurd e.symm v
  |succ n ih=>
   rintro a' w' ⟨j,h',s,M',e,t⟩;rw[axR]at e;have Z:c.wpIn (iM none) L P (Exit.then (λa w=>J n a w) (qG keep G N B out)) a' w':=by
    cases e1:I j h' s with
    |bad=>rw[e1]at e;exact absurd e.symm v
    |nor u Q W=>
     rw[e1]at e;refine wpIn_mono (S L s j h' M' a' w' (by rw[e1];simp) t) ?_;intro x a2 X q;rw[e1]at q;cases x<;>simp only[qG]at q;obtain⟨Y,O⟩:=q;exact⟨u,Q,W,Y,e,O⟩
    |ret u Q W=>
     rw[e1]at e;refine wpIn_mono (S L s j h' M' a' w' (by rw[e1];simp) t) ?_;intro x a2 X q;rw[e1]at q;cases x<;>simp only[qG]at q;subst e;exact q
    |ex i u Q W=>
     rw[e1]at e;refine wpIn_mono (S L s j h' M' a' w' (by rw[e1];simp) t) ?_;intro x a2 X q;rw[e1]at q;cases x<;>simp only[qG]at q;subst e;exact q
   obtain⟨x,f,g,r,d⟩:=Z b (.inLoop c::k) cs U hb z;cases x with
   |normal=>
    obtain⟨x2,D,K,y,o⟩:=ih f g r;exact⟨x2,D,K,y,.of_steps (StepsIn.trans d (.one (fenced_calm hb z rfl) stepR_inLoop)) o⟩
   |exit id=>exact⟨_,f,g,r,.pass (x:=.inLoop c) rfl (λ_ _=>.inl (by simp)) d⟩
   |goto l=>exact⟨_,f,g,r,.pass (x:=.inLoop c) rfl (λ_ _=>.inl (by simp)) d⟩
   |ret=>exact⟨_,f,g,r,.pass (x:=.inLoop c) rfl (λ_ _=>.inl (by simp)) d⟩
   |panic ch=>exact⟨_,f,g,r,.pass (x:=.inLoop c) rfl (λ_ _=>.inl (by simp)) d⟩
   |outgrown=>exact⟨_,f,g,r,.pass (x:=.inLoop c) rfl (λ_ _=>.inl (by simp)) d⟩
 obtain⟨x,a',w',r,d⟩:=key n a w ⟨fr,h,p,M,E,at_⟩;exact⟨x,a',w',r,.of_steps (.one (fenced_calm hb z rfl) stepR_loop) d⟩
theorem aD6{ro:Option Nat}{n:Nat}{Df:List Deferred}(y:∀f F,e f=some F->aG P G f F){ops:Array Oper}{d:F}{h':Hp}{Q:Exit->Act->World->Prop}{u:List Nat}:
  ∀(l:List Nat) (env:Env) (fr:F) (h:Hp) (M:Mp) (a:Act) (w:World),(∀i∈l,∃o,ops[i]?=some o/\o.guard=none/\pW G N o=true)->At keep G N Df M fr h a w->mF M env a->
   oD P keep e ops (l.filterMap (ops[·]?)) env fr h=.nor d h'->
   (∀a' w' M',At keep G N Df M' d h' a' w'->Ext M h w M' h' w'->wpOpsIn (iM ro) n P ops Q u a' w')->wpOpsIn (iM ro) n P ops Q (l++u) a w:=by
 intro l;induction l with
 |nil=>
  intro env fr h M a w _ at_ _ b q;simp only[List.filterMap_nil,oD]at b;cases b;exact q a w M at_ (.refl at_.rel)
 |cons i l H=>
  intro env fr h M a w hl at_ z b q;obtain⟨o,t,g,k⟩:=hl i (by simp);rw[List.cons_append];simp only[wpOpsIn,t];rw[x! t]at b;unfold oD at b;simp only[g]at b;have D:p! o (yielded ops a.tmps)=true:=by simp[p!,g]
  simp only[D,if_true];refine azc (Q:=λ_ _ _=>False) (λ_ _ h=>h) (λ_ _ _ h=>h.elim) (uJ k) (aja y k (by simp) at_ z b ?_);intro c p x a' w' M' e1 at1 r E;exact H c p x M' a' w' (λj C=>hl j (by simp[C])) at1 r e1 λa2 I v m s=>q a2 I v m (E.trans s)
theorem auD:∀{l:List Oper} {j:Nat},yIdx l=some j->j<l.length
 | [],j,h=>by cases h
 |o::l,j,h=>by
  simp only[yIdx]at h;split at h
  ·cases h;simp
  ·split at h
   ·rename_i j' a;cases h;have:=auD a;simp;omega
   ·cases h
theorem DX(ops:Array Oper):∀(n k:Nat),k+n<=ops.size->(g! k n).filterMap (ops[·]?)=(ops.toList.drop k).take n
 |0,k,_=>by simp
 |n+1,k,b=>by
  rw[N!,x! (j! (by omega)),DX ops n (k+1) (by omega)];have a:k<ops.toList.length:=by simp;omega
  rw[List.drop_eq_getElem_cons a,List.take_succ_cons];simp
theorem kD.region(hE:∀f F,e f=some F->aG P G f F){Y:List V->Hp->YR}(hY:YOk P G B Y){id:Nat}{ops:Array Oper}(C:∀o∈ops.toList,pW G N o=true):kD P keep G N B (.region id ops false) (aBH P keep e Y B.kp.nat ops):=by
 intro n p fr h M a w d at_;refine wpIn_region ?_;unfold aBH at d⊢;cases p with
 |some q=>exact absurd rfl d
 |none=>
 simp only[]at d⊢;cases hj:yIdx ops.toList with
 |none=>rw[hj]at d;exact absurd rfl d
 |some j=>
 have S:j<ops.size:=by simpa using auD hj
 rw[hj]at d;simp only[]at d⊢;have ho:ops[j]?=some ops[j]:=j! S;rw[ho]at d⊢;simp only[]at d⊢;cases U:aqD ops.toList with
 |false=>rw[U]at d;exact absurd rfl d
 |true=>
 rw[U]at d;simp only[]at d⊢;have ac:∀o∈ops.toList,o.guard=none:=λo hm=>by
  have:=t!.1 U o hm;split at this
  ·assumption
  ·cases this
 cases u:oD P keep e ops (ops.toList.take j) [] fr h with
 |bad=>rw[u]at d;exact absurd rfl d
 |ret r h1=>rw[u]at d;exact absurd rfl d
 |ex i r h1=>rw[u]at d;exact absurd rfl d
 |nor r h1=>
 rw[u]at d;simp only[]at d⊢;have z:∀{i:Nat} (hi:i<ops.size),ops[i]∈ops.toList:=λhi=>by simp
 have H:List.range ops.size=g! 0 j++(j::g! (j+1) (ops.size - (j+1))):=by
  have t:g! j (ops.size - j)=j::g! (j+1) (ops.size - (j+1)):=by
   rw[show ops.size - j=(ops.size - (j+1))+1 by omega,N!]
  rw[<-t,List.range_eq_range'];have:=List.range'_append (s:=0) (m:=j) (n:=ops.size - j) (step:=1);simp only[Nat.one_mul,A!]at this;rw[this];congr 1;omega
 rw[H];refine aD6 hE (g! 0 j) [] fr h M a w (λi hi=>?_) at_.at_ (mF.nil M a) (by rw[DX ops j 0 (by omega)];exact u) ?_
 ·have Q:i<ops.size:=by
   have:=O!.1 hi;obtain⟨q,hq,rfl⟩:=this;omega
  exact⟨ops[i],j! Q,ac _ (z Q),C _ (z Q)⟩
 intro a1 w1 M1 at1 ap;have g1:=at_.goes.step at_.at_.rel ap;simp only[wpOpsIn,ho];have hw:p! ops[j] (yielded ops a1.tmps)=true:=by simp[p!,ac _ (z S)]
 simp only[hw,if_true];have J:=C _ (z S);have ad:=uJ J;cases k:axd ops[j] r B.kp.nat with
 |none=>rw[k]at d;exact absurd rfl d
 |some args=>
 rw[k]at d;simp only[]at d⊢;have K:∃cargs,bU M1 args cargs/\∀{w'},(Instr.yield B.l cargs.toArray).run P w1=w'->(execOp a1.eval ops[j]).run P w1=w':=by
  unfold axd at k;split at k
  ·rename_i c al;split at k
   ·rename_i f ab;split at k
    ·rename_i vs am;split at k
     ·rename_i g ar;split at k
      ·rename_i fn x y;split at k
       ·split at k
        ·rename_i k';split at k
         ·rename_i hk;cases k;have hk:=a! hk;subst hk;obtain⟨cg,cargs,q1,q2,q3⟩:=(X7 at1 am).cons_inv;rw[Q!]at q1;cases q1;obtain⟨g0,xs,ys,ak,ao,au,hf⟩:=q2.func;obtain⟨L,hL,rfl⟩:=ak;rw[Pos.QA,g1.ky]at hL;cases hL;cases(show xs= [] from ao);refine⟨_,q3,λ{w'} an=>?_⟩;rw[<-an];have e2:(c.args.toList.map a1.eval).toArray=c.args.map a1.eval:=by apply Array.ext';simp
          rw[e2];simp only[execOp,al,resolve,ab,hf,Deferred.ofValue];simp[invoke]
         ·cases k
        ·cases k
       ·cases k
      ·cases k
     ·cases k
    ·cases k
   ·cases k
  ·cases k
 obtain⟨cargs,E,O⟩:=K;refine⟨λ_ _=>trivial,?_⟩;rw[Oper.semAt_eq _ _ _ ad];have after:∀(b:Bool) (p:Option Jmp) (t:Hp),X6 (wB keep ops[j].dst (.bool b) [] r λenv fr=>oD P keep e ops (ops.toList.drop (j+1)) env fr t) p≠ .bad->
   ∀M' w',M1.le M'->Rel G M' t w'->Goes B p M' t w'->wpOpsIn (iM none) n P ops (qG keep G N B (X6 (wB keep ops[j].dst (.bool b) [] r λenv fr=>oD P keep e ops (ops.toList.drop (j+1)) env fr t) p)) (g! (j+1) (ops.size - (j+1))) (a1.put ops[j].dst (.bool b)) w':=by
  intro b p t I M2 w2 D af g2;have ag:At keep G N [] M2 r t a1 w2:=⟨af,at1.fr.mono D,at1.size,at1.plain⟩
  generalize ae:(wB keep ops[j].dst (.bool b) [] r λenv fr=>oD P keep e ops (ops.toList.drop (j+1)) env fr t)=out at I;obtain⟨Z,ai,e1,ah,aj⟩:=aeP ag (mF.nil M2 a1) (FB J) (xP M2 b) ae;refine axD (aqa (Df:=()) af g2) jc.apg (λo ho=>uJ (C o ho)) _ _ _ (auQ hE C (aqb I) _ Z ai t M2 _ w2 (λi hi=>?_) ah aj ?_)
  ·obtain⟨q,hq,rfl⟩:=O!.1 hi;omega
  ·rw[DX ops _ (j+1) (by omega),List.take_of_length_le (by simp)];exact e1
 have aa:=hY args cargs h1 M1 w1 (n - 1) (fun
  | .returned v,aq=>wpOpsIn (iM none) n P ops (qG keep G N B (match Y args h1 with
   | .go t=>X6 (wB keep ops[j].dst (.bool true) [] r λenv fr=>oD P keep e ops (ops.toList.drop (j+1)) env fr t) none
   | .stop q t=>X6 (wB keep ops[j].dst (.bool false) [] r λenv fr=>oD P keep e ops (ops.toList.drop (j+1)) env fr t) (some q)
   | .bad=>.bad)) (g! (j+1) (ops.size - (j+1))) (a1.put ops[j].dst v) aq
  | .panicked _,_=>False
  | .outgrown,_=>False) at1.rel E g1 (by
   cases hy:Y args h1 with
   |bad=>rw[hy]at d;exact absurd rfl d
   |go t=>
    rw[hy]at d;exact λM' w' D W g'=>after true none t d M' w' D W g'
   |stop q t=>
    rw[hy]at d;exact λM' w' D W g'=>after false (some q) t d M' w' D W g')
 rw[O (run_yield g1.st aa.1)];rw[Oper.uponIn_round];refine⟨λhx=>by simp[iM,Fence.wide]at hx,?_⟩;refine RoundIn.mono aa.2 ?_;intro x w2 X;cases x with
 |returned v=>exact X
 |panicked ch=>exact X.elim
 |outgrown=>exact X.elim
end
section
variable{P:Program}{G N:Nat}{M M':Mp}{h h':Hp}{w w':World}{keep:Nat->Bool}{e:FuncId->Option Fun}{r:V}{B:Rng}
def nV(G N:Nat):Code->Bool
 | .seq a b=>(match yields (.seq a b) with|true=>nV G N a&&nV G N b|false=>codeOk G N (.seq a b))
 | .cond c a b=>(match yields (.cond c a b) with|true=>nV G N a&&nV G N b|false=>codeOk G N (.cond c a b))
 | .block id b=>(match yields (.block id b) with|true=>nV G N b|false=>codeOk G N (.block id b))
 | .loop b=>(match yields (.loop b) with|true=>nV G N b|false=>codeOk G N (.loop b))
 |c=>codeOk G N c
theorem kD.bad{c:Code}:kD P keep G N B c (λ_ _ _=>.bad):=λ_ _ _ _ _ _ _ a _=>absurd rfl a
theorem Jm(j:P.follows .mixedOrders=true)(i:∀f F,e f=some F->aG P G f F){Y:List V->Hp->YR}(l:YOk P G B Y)(pl:bV)(lf:Nat):(c:Code)->nV G N c=true->kD P keep G N B c (FH P G N keep e pl lf Y B.kp.nat c)
 | .seq a b,g=>by
  unfold nV at g;unfold FH;split at g
  ·rename_i k
   (try rw[k])
   simp only[e!]at g;exact .seq (Jm j i l pl lf a g.1) (Jm j i l pl lf b g.2)
  ·rename_i k
   (try rw[k])
   exact .lift (dU j i pl lf _ g)
 | .cond c a b,g=>by
  unfold nV at g;unfold FH;split at g
  ·rename_i k
   (try rw[k])
   simp only[e!]at g;exact .cond (Jm j i l pl lf a g.1) (Jm j i l pl lf b g.2)
  ·rename_i k
   (try rw[k])
   exact .lift (dU j i pl lf _ g)
 | .block id b,g=>by
  unfold nV at g;unfold FH;split at g
  ·rename_i k
   (try rw[k])
   exact .block (Jm j i l pl lf b g)
  ·rename_i k
   (try rw[k])
   exact .lift (dU j i pl lf _ g)
 | .loop b,g=>by
  unfold nV at g;unfold FH;split at g
  ·rename_i k
   (try rw[k])
   exact .loop (Jm j i l pl lf b g) lf
  ·rename_i k
   (try rw[k])
   exact .lift (dU j i pl lf _ g)
 | .region id ops d,g=>by
  unfold FH;split
  ·cases d with
   |true=>exact .bad
   |false=>
    unfold nV at g;simp only[codeOk,t!]at g;exact .region i l g
  ·exact .lift (dU j i pl lf _ (by unfold nV at g;exact g))
 | .skip,g=>.lift (dU j i pl lf _ g)
 | .label _,g=>.lift (dU j i pl lf _ g)
 | .exit _,g=>.lift (dU j i pl lf _ g)
 | .ret,g=>.lift (dU j i pl lf _ g)
 | .scope _,g=>.lift (dU j i pl lf _ g)
 | .goto _,g=>.lift (dU j i pl lf _ g)
 | .rangeFunc ..,g=>.lift (dU j i pl lf _ g)
 | .refuse _,g=>.lift (dU j i pl lf _ g)
inductive IR where
 |ok (h:Hp) (p:Option Jmp)
 |bad
abbrev aj1:=(List V->Hp->YR)->Nat->List V->Hp->IR
def ax0(P:Program)(G:Nat)(keep:Nat->Bool)(e:FuncId->Option Fun)(pl:bV)(lf:Nat)(fn:Func):aj1:=λY k args h=>match fn.body with
 |none=>.bad
 |some c=>(match U! args.length fn.ntmps,b! fn.results.size 0 with
  |true,true=>(match FH P G fn.ntmps keep e pl lf Y k c (DJ keep 0 args .nil) h none with
   | .nor _ h' p=>.ok h' p
   | .ret _ h' p=>.ok h' p
   |_=>.bad)
  |_,_=>.bad)
def FV(P:Program)(G:Nat)(f:FuncId)(I:aj1):Prop:=
 (∀args w,(callFunc f args).run P w=.ok (.enter f args) w)/\
 ∀(B:Rng) (Y:List V->Hp->YR) (args:List V) (cargs:List Value) (h h':Hp) (p:Option Jmp) (M:Mp) (w:World) (n:Nat),YOk P G B Y->I Y B.kp.nat args h=.ok h' p->Rel G M h w->bU M args cargs->Goes B none M h w->
  CallsIn (iM none) n P f cargs.toArray w λe w'=>∃c,e=.returned c/\∃M',Rel G M' h' w'/\Goes B p M' h' w'
theorem aB1(H:P.follows .mixedOrders=true){f:FuncId}{fn:Func}{pl:bV}{lf:Nat}(C:∀f F,e f=some F->aG P G f F)(v:P.funcs[f]?=some fn)(i:((match fn.body with|some c=>nV G fn.ntmps c|none=>false)&&!(fn.name== "runtime.NumGoroutine"))=true):FV P G f (ax0 P G keep e pl lf fn):=by
 simp only[e!,M!]at i;cases hb:fn.body with
 |none=>rw[hb]at i;cases i.1
 |some c=>
  rw[hb]at i;refine⟨acj v i.2 hb,?_⟩;intro B Y args cargs h h' p M w n D d I E g;unfold ax0 at d;rw[hb]at d;simp only[]at d;split at d
  ·rename_i u b;have b:fn.results= #[]:=Array.size_eq_zero_iff.1 (a! b);have t:=avd (keep:=keep) (fn:=fn) I E (D! u);have y:∀o,FH P G fn.ntmps keep e pl lf Y B.kp.nat c (DJ keep 0 args .nil) h none=o->o≠ .bad->c.wpIn (iM none) n P (qG keep G fn.ntmps B o) {tmps:=cargs.toArray++l! (fn.ntmps - cargs.toArray.size) undef,defers:= []} w:=by
    intro o j k;rw[<-j]at k⊢;exact Jm H C D pl lf c i.1 n none _ h M _ w k ⟨t,g⟩
   have l:∀(tmps:Array Value) (w':World),(results fn tmps).run P w'=.ok (.tuple #[]) w':=λtmps w'=>by
    rw[XZ,b];simp
   refine callsIn_of_wp v hb trivial ?_ rfl;split at d
   ·rename_i m z J j;cases d;refine wpIn_mono (y _ j (by simp)) ?_;intro x a' w' q;cases x<;>simp only[qG]at q;obtain⟨M',a,s⟩:=q;exact⟨a.plain,_,l _ _,_,rfl,M',a.rel,s⟩
   ·rename_i m z J j;cases d;refine wpIn_mono (y _ j (by simp)) ?_;intro x a' w' q;cases x<;>simp only[qG]at q;obtain⟨M',a,s⟩:=q;exact⟨a.plain,_,l _ _,_,rfl,M',a.rel,s⟩
   ·cases d
  ·cases d
def jY(b:Nat):List Deferred->World->Prop
 | [],_=>True
 |d::ds,w=>∃r,d.target=.collected r/\b<=r/\w.heap[r]?=some (.deferred (some []))/\(∀a∈ds,a.target≠ .collected r)/\jY b ds w
theorem jY.step{b:Nat}(a:Rel G M h w)(x:Ext M h w M' h' w'):∀{Df:List Deferred},jY b Df w->jY b Df w'
 | [],_=>trivial
 |_::_,⟨r,c,d,f,g,i⟩=>⟨r,c,d,a.kept x f rfl,g,jY.step a x i⟩
theorem jY.put{b r:Nat}{o':Obj}:∀{Df:List Deferred},(∀a∈Df,a.target≠ .collected r)->jY b Df w->jY b Df (w.putObj r o')
 | [],_,_=>trivial
 |d::ds,f,⟨m,c,g,i,j,k⟩=>⟨m,c,g,by rw[c! (λe=>f d (by simp) (by rw[c,e]))];exact i,j,jY.put (λa l=>f a (by simp[l])) k⟩
theorem jY.lt{b:Nat}:∀{Df:List Deferred},jY b Df w->∀d∈Df,∀r,d.target=.collected r->r<w.heap.size
 |d::ds,⟨r,f,_,g,_,i⟩,c,a,j,e=>by
  rcases List.mem_cons.1 a with rfl|a
  ·rw[f]at e;cases e;exact(d!.1 g).1
  ·exact jY.lt i c a j e
def yC(keep:Nat->Bool)(G N b:Nat)(M:Mp)(h:Hp)(w:World):Out->Exit->Act->World->Prop
 | .nor fr h',.normal,a,w'=>∃M' Df,jY b Df w'/\At keep G N Df M' fr h' a w'/\Ext M h w M' h' w'
 | .ret fr h',.ret,a,w'=>∃M' Df,jY b Df w'/\At keep G N Df M' fr h' a w'/\Ext M h w M' h' w'
 | .ex i fr h',.exit j,a,w'=>j=i/\∃M' Df,jY b Df w'/\At keep G N Df M' fr h' a w'/\Ext M h w M' h' w'
 |_,_,_,_=>False
theorem yC.trans{b:Nat}{M':Mp}{w':World}(x:Ext M h w M' h' w'){o:Out}{e:Exit}{a:Act}{v:World}(q:yC keep G N b M' h' w' o e a v):yC keep G N b M h w o e a v:=by
 cases o<;>cases e<;>simp only[yC]at q⊢
 ·obtain⟨c,Df,m,p,y⟩:=q;exact⟨c,Df,m,p,x.trans y⟩
 ·obtain⟨c,Df,m,p,y⟩:=q;exact⟨c,Df,m,p,x.trans y⟩
 ·obtain⟨rfl,c,Df,m,p,y⟩:=q;exact⟨rfl,c,Df,m,p,x.trans y⟩
def oN(P:Program)(keep:Nat->Bool)(G N:Nat)(c:Code)(D:F->Hp->Out):Prop:=
 ∀n b Df fr h M a w,D fr h≠ .bad->b<=w.heap.size->jY b Df w->At keep G N Df M fr h a w->c.wpIn (iM none) n P (yC keep G N b M h w (D fr h)) a w
theorem oN.lift{c:Code}{D:F->Hp->Out}(g:dX P keep G N c D):oN P keep G N c D:=by
 intro n b Df fr h M a w f hb d at_;refine wpIn_mono (g none n Df fr h M a w f at_) ?_;intro x a' w' q;generalize D fr h=o at q;cases o<;>cases x<;>simp only[jc]at q
 ·obtain⟨M',p,y⟩:=q;exact⟨M',Df,d.step at_.rel y,p,y⟩
 ·obtain⟨M',p,y⟩:=q;exact⟨M',Df,d.step at_.rel y,p,y⟩
 ·obtain⟨e1,M',p,y⟩:=q;exact⟨e1,M',Df,d.step at_.rel y,p,y⟩
theorem oN.seq{c d:Code}{D E:F->Hp->Out}(m:oN P keep G N c D)(t:oN P keep G N d E):oN P keep G N (.seq c d) (aB D E):=by
 intro n b Df fr h M a w f hb o at_;refine wpIn_seq ?_;unfold aB at f⊢;cases e1:D fr h with
 |bad=>rw[e1]at f;exact absurd rfl f
 |nor g l=>
  rw[e1]at f;refine wpIn_mono (m n b Df fr h M a w (by rw[e1];simp) hb o at_) ?_;intro x a' w' q;rw[e1]at q;cases x<;>simp only[yC]at q;obtain⟨M',j,p,k,s⟩:=q;exact wpIn_mono (t n b j g l M' a' w' f (Nat.le_trans hb s.size) p k) λx a w q=>yC.trans s q
 |ret g l=>
  refine wpIn_mono (m n b Df fr h M a w (by rw[e1];simp) hb o at_) ?_;intro x a' w' q;rw[e1]at q;cases x<;>simp only[yC]at q;exact q
 |ex i g l=>
  refine wpIn_mono (m n b Df fr h M a w (by rw[e1];simp) hb o at_) ?_;intro x a' w' q;rw[e1]at q;cases x<;>simp only[yC]at q;exact q
theorem oN.cond{x:Operand}{c d:Code}{D E:F->Hp->Out}(m:∀g,x=.global g->g<G)(k:oN P keep G N c D)(l:oN P keep G N d E):oN P keep G N (.cond x c d) (amk x D E):=by
 intro n b Df fr h M a w f hb i at_;obtain⟨v,env,e1,o,-⟩:=aeB f at_ m (mF.nil M a) (rfl:amk x D E fr h=_);rw[<-e1]at f⊢;cases v<;>simp only[ne_eq,not_true_eq_false]at f⊢;rename_i t;have j:=o.bool;cases t
 ·exact wpIn_cond_false j (l n b Df fr h M a w f hb i at_)
 ·exact wpIn_cond_true j (k n b Df fr h M a w f hb i at_)
theorem oN.block{id:Nat}{c:Code}{D:F->Hp->Out}(g:oN P keep G N c D):oN P keep G N (.block id c) (bK id D):=by
 intro n b Df fr h M a w d hb j at_;refine wpIn_block ?_;unfold bK at d⊢;cases e1:D fr h with
 |bad=>rw[e1]at d;exact absurd rfl d
 |nor f k=>
  refine wpIn_mono (g n b Df fr h M a w (by rw[e1];simp) hb j at_) ?_;intro x a' w' q;rw[e1]at q;cases x<;>simp only[yC]at q;exact q
 |ret f k=>
  refine wpIn_mono (g n b Df fr h M a w (by rw[e1];simp) hb j at_) ?_;intro x a' w' q;rw[e1]at q;cases x<;>simp only[yC]at q;exact q
 |ex i f k=>
  refine wpIn_mono (g n b Df fr h M a w (by rw[e1];simp) hb j at_) ?_;intro x a' w' q;rw[e1]at q;cases x<;>simp only[yC]at q;obtain⟨rfl,q⟩:=q;simp only[Exit.inBlock];cases hb:b! _ id with
  |true=>rw[if_pos (a! hb)];exact q
  |false=>rw[if_neg (n! hb)];exact⟨rfl,q⟩
abbrev Kt:=FuncId->Option aj1
def axs(k:Kt)(keep:Nat->Bool)(g:Operand)(ps:List Nat)(c d:F->Hp->Out)(fr:F)(h:Hp):Out:=
 X8 g [] fr λv _=>match v with
 | .func fn a b=>(match fn with
  | .func f=>(match k f with
   |some I=>(match I (aiJ keep ps c d fr) h.next.nat (a.list++(.func (.yield h.next.nat) .nil .nil::b.list)) (aI 1 h) with
    | .ok h' p=>(match p with
     |none=>.nor fr h'
     |some j=>(match j with| .ret=>.ret fr h'| .ex i=>.ex i fr h'))
    | .bad=>.bad)
   |none=>.bad)
  |_=>.bad)
 |_=>.bad
theorem oN.range{U:Kt}(hI:∀f I,U f=some I->FV P G f I){g:Operand}{ps:Array Tmp}{ca cb:Code}{K O:F->Hp->Out}(hg:∀x,g=.global x->x<G)(ac:∀t∈ps.toList,t<N)(hA:dX P keep G N ca K)(hB:dX P keep G N cb O):
  oN P keep G N (.rangeFunc g ps ca cb) (axs U keep g ps.toList K O):=by
 intro n b Df fr h M a w d hb hm at_;refine wpIn_rangeFunc λfn _=>?_;generalize k:axs U keep g ps.toList K O fr h=out at d;unfold axs at k;obtain⟨v,env,e1,hv,-⟩:=aeB d at_ hg (mF.nil M a) k;clear k;split at e1
 ·rename_i aj va vb;split at e1
  ·rename_i f;split at e1
   ·rename_i I Z;split at e1
    ·rename_i h' p H;obtain⟨s,u⟩:=hI f I Z;obtain⟨g0,xs,ys,aa,af,ag,ab⟩:=hv.func;obtain rfl:g0=.func f:=aa
     let L:Loop:={state:=.ready,pending:=none,fn,tmps:=a.tmps,params:=ps,assign:=ca,body:=cb,defers:=w.heap.size}
     let B:Rng:={M:=M,h:=h,w:=w,kp:=h.next,l:=w.heap.size+1,L:=L}
     let m:=(w.alloc (.deferred (some []))).alloc (.loop L)
     have ae:(w.alloc (.deferred (some []))).heap.size=w.heap.size+1:=World.size_alloc _ _;have r1:Rel G M h m:=(at_.rel.QS _).QS _;have x1:Ext M h w M h m:=((Ext.refl at_.rel).QS _).QS _;obtain⟨r2,x2⟩:=azR r1 ⟨w.heap.size+1,0,0⟩;have y:=x2.le;generalize W:M.add h.next ⟨w.heap.size+1,0,0⟩=Q at r2 x2 y;have E:Q h.next=some ⟨w.heap.size+1,0,0⟩:=by rw[<-W];exact M.eF _ _
     have g1:Goes B none Q (aI 1 h) m:=by
      refine⟨x1.trans x2,E,Nat.lt_succ_self _,?_,?_⟩
      ·show m.heap[w.heap.size+1]?=some (.loop L);rw[<-ae];exact z! _ _
      ·show((w.alloc (.deferred (some []))).heap.push (.loop L))[w.heap.size]?=some (.deferred (some []));rw[q!,if_neg (by omega)];exact z! _ _
     have hY:YOk P G B (aiJ keep ps.toList K O fr):=λargs cargs h2 M2 w2 n2 R ad X g2 ah=>
      aBG (B:=B) (fr0:=fr) hA hB at_.fr at_.size ac ad X g2 ah
     have q:bU Q (va.list++(.func (.yield h.next.nat) .nil .nil::vb.list)) (xs++(.func (.yield (w.heap.size+1)) #[] #[]::ys)):=by
      refine(af.mono y).append ⟨_,_,⟨rfl,.yield (w.heap.size+1),[],[],⟨_,by rw[Pos.QA];exact E,rfl⟩,⟨rfl,rfl⟩,rfl,rfl,rfl⟩,ag.mono y,rfl⟩
     refine⟨w.heap.size+1,[{target:=.collected w.heap.size,args:= #[]}],m,{target:=.fn (.func f) ys.toArray,args:=xs.toArray++ #[.func (.yield (w.heap.size+1)) #[] #[]]},m,f,(xs++(.func (.yield (w.heap.size+1)) #[] #[]::ys)).toArray,m,run_enterLoop_outer _ _ _ _ _,?_,λ_ _=>trivial,?_,λhx=>by simp[iM,Fence.wide]at hx,?_⟩
     ·simp only[resolve,rangeCall,ab,Deferred.ofValue];simp[Act.eval]
     ·have:=s ((xs.toArray++ #[.func (.yield (w.heap.size+1)) #[] #[]])++ys.toArray) m;have e2:((xs.toArray++ #[Value.func (.yield (w.heap.size+1)) #[] #[]])++ys.toArray)=(xs++(.func (.yield (w.heap.size+1)) #[] #[]::ys)).toArray:=by simp
      rw[<-e2];exact this
     ·refine CallsIn.mono (u B _ _ _ _ h' p Q m _ hY H r2 q g1) ?_;rintro x S ⟨c,rfl,C,r3,D⟩;have ai:w.heap.size+1<S.heap.size:=(d!.1 D.st).1
      refine⟨_,_,run_endLoop D.st (by cases p<;>simp[vU]),?_⟩;have r4:=r3.putObj D.st rfl (.loop {vU B.L p with state:=.exhausted})
      have z:Ext M h w C h' (S.putObj B.l (.loop {vU B.L p with state:=.exhausted})):=D.ext.putObj (b:=B.l) (by show w.heap.size<=w.heap.size+1;omega) _;have J:(S.putObj B.l (.loop {vU B.L p with state:=.exhausted})).heap[w.heap.size]?=some (.deferred (some [])):=by
       rw[c! (by show w.heap.size≠w.heap.size+1;omega)];exact D.mrk
      generalize S.putObj B.l (.loop {vU B.L p with state:=.exhausted})=w4 at r4 z J;have m4:jY b ([{target:=.collected w.heap.size,args:= #[]}]++a.defers) w4:=by
       rw[show a.defers=Df from at_.plain];refine⟨w.heap.size,rfl,hb,J,λd' Y e=>?_,hm.step at_.rel z⟩;exact Nat.lt_irrefl _ (hm.lt d' Y _ e)
      have o:At keep G N ([{target:=.collected w.heap.size,args:= #[]}]++a.defers) C fr h' {a with defers:= [{target:=.collected w.heap.size,args:= #[]}]++a.defers} w4:=⟨r4,at_.fr.mono z.le,at_.size,rfl⟩
      cases p with
      |none=>
       subst e1;exact⟨C,_,m4,o,z⟩
      |some j=>
       cases j with
       |ret=>
        subst e1;exact wpIn_ret ⟨C,_,m4,o,z⟩
       |ex i=>
        subst e1;exact wpIn_exit ⟨rfl,C,_,m4,o,z⟩
    ·exact absurd e1.symm d
   ·exact absurd e1.symm d
  ·exact absurd e1.symm d
 ·exact absurd e1.symm d
def ranges:Code->Bool
 | .rangeFunc .. =>true
 | .seq a b=>ranges a||ranges b
 | .cond _ a b=>ranges a||ranges b
 | .block _ b=>ranges b
 |_=>false
def Nl(P:Program)(G N:Nat)(keep:Nat->Bool)(e:FuncId->Option Fun)(d:Kt)(pl:bV)(lf:Nat):Code->F->Hp->Out
 | .seq a b=>(match ranges (.seq a b) with
  |true=>aB (Nl P G N keep e d pl lf a) (Nl P G N keep e d pl lf b)
  |false=>kV P G N keep e pl lf (.seq a b))
 | .cond c a b=>(match ranges (.cond c a b) with
  |true=>amk c (Nl P G N keep e d pl lf a) (Nl P G N keep e d pl lf b)
  |false=>kV P G N keep e pl lf (.cond c a b))
 | .block id b=>(match ranges (.block id b) with
  |true=>bK id (Nl P G N keep e d pl lf b)
  |false=>kV P G N keep e pl lf (.block id b))
 | .rangeFunc g ps ca cb=>axs d keep g ps.toList (kV P G N keep e pl lf ca) (kV P G N keep e pl lf cb)
 |c=>kV P G N keep e pl lf c
def ajx(G:Nat)(g:Operand):Bool:=match g with| .global x=>C! x G|_=>true
theorem anT{g:Operand}(h:ajx G g=true):∀x,g=.global x->x<G:=λx e=>by
 subst e;simpa[ajx,v!]using h
def uP(G N:Nat):Code->Bool
 | .seq a b=>(match ranges (.seq a b) with|true=>uP G N a&&uP G N b|false=>codeOk G N (.seq a b))
 | .cond c a b=>(match ranges (.cond c a b) with|true=>ajx G c&&(uP G N a&&uP G N b)|false=>codeOk G N (.cond c a b))
 | .block id b=>(match ranges (.block id b) with|true=>uP G N b|false=>codeOk G N (.block id b))
 | .rangeFunc g ps ca cb=>ajx G g&&((ps.toList.all λt=>C! t N)&&(codeOk G N ca&&codeOk G N cb))
 |c=>codeOk G N c
theorem Pv(j:P.follows .mixedOrders=true)(i:∀f F,e f=some F->aG P G f F){m:Kt}(l:∀f I,m f=some I->FV P G f I)(pl:bV)(lf:Nat):(c:Code)->uP G N c=true->oN P keep G N c (Nl P G N keep e m pl lf c)
 | .seq a b,d=>by
  unfold uP at d;unfold Nl;split at d
  ·rename_i k;try rw[k]
   simp only[e!]at d;exact .seq (Pv j i l pl lf a d.1) (Pv j i l pl lf b d.2)
  ·rename_i k;try rw[k]
   exact .lift (dU j i pl lf _ d)
 | .cond c a b,d=>by
  unfold uP at d;unfold Nl;split at d
  ·rename_i k;try rw[k]
   simp only[e!]at d;exact .cond (anT d.1) (Pv j i l pl lf a d.2.1) (Pv j i l pl lf b d.2.2)
  ·rename_i k;try rw[k]
   exact .lift (dU j i pl lf _ d)
 | .block id b,d=>by
  unfold uP at d;unfold Nl;split at d
  ·rename_i k;try rw[k]
   exact .block (Pv j i l pl lf b d)
  ·rename_i k;try rw[k]
   exact .lift (dU j i pl lf _ d)
 | .rangeFunc g ps ca cb,d=>by
  unfold uP at d;simp only[e!,t!]at d;unfold Nl;exact .range l (anT d.1) (λt n=>by simpa[v!]using d.2.1 t n) (dU j i pl lf _ d.2.2.1) (dU j i pl lf _ d.2.2.2)
 | .region _ _ _,d=>.lift (dU j i pl lf _ d)
 | .loop _,d=>.lift (dU j i pl lf _ d)
 | .skip,d=>.lift (dU j i pl lf _ d)
 | .label _,d=>.lift (dU j i pl lf _ d)
 | .exit _,d=>.lift (dU j i pl lf _ d)
 | .ret,d=>.lift (dU j i pl lf _ d)
 | .scope _,d=>.lift (dU j i pl lf _ d)
 | .goto _,d=>.lift (dU j i pl lf _ d)
 | .refuse _,d=>.lift (dU j i pl lf _ d)
theorem aqS{fn:Func}{tmps:Array Value}{R:Ending->World->Prop}{n:Nat}{i:Mp}{h0:Hp}{g:World}:∀{Df:List Deferred} {h':Hp} {M':Mp} {w':World},jY g.heap.size Df w'->Rel G M' h' w'->Ext i h0 g M' h' w'->
  (∀a,Rel G M' h' a->Ext i h0 g M' h' a->∃v,(results fn tmps).run P a=.ok v a/\R (.returned v) a)->LeavesInM (iM none) n P fn tmps R Df .returning w'
 | [],h',M',w',_,c,f,b=>b w' c f
 |d::ds,h',M',w',⟨r,k,l,j,m,o⟩,c,f,b=>
  ⟨by simp,.inl ⟨r,_,k,run_takeDeferred j,aqS (o.put m) (c.putObj j rfl _) (f.putObj l _) b⟩⟩
def aB9(P:Program)(G:Nat)(keep:Nat->Bool)(e:FuncId->Option Fun)(a:Kt)(pl:bV)(lf:Nat)(fn:Func):Fun:=match fn.body with
 |some c=>bC P keep fn.ntmps fn.results.toList (Nl P G fn.ntmps keep e a pl lf c)
 |none=>λ_ _=>.bad
theorem aEy(E:P.follows .mixedOrders=true){f:FuncId}{fn:Func}{m:Kt}{pl:bV}{lf:Nat}(C:∀f F,e f=some F->aG P G f F)(D:∀f I,m f=some I->FV P G f I)(z:P.funcs[f]?=some fn)(j:((match fn.body with|some c=>uP G fn.ntmps c|none=>false)&&!(fn.name== "runtime.NumGoroutine"))=true):aG P G f (aB9 P G keep e m pl lf fn):=by
 simp only[e!,M!]at j;unfold aB9;cases hb:fn.body with
 |none=>rw[hb]at j;cases j.1
 |some c=>
  rw[hb]at j;have y:=Pv (keep:=keep) E C D pl lf c j.1;intro args h r h' M w cargs b H d;rw[acj z j.2 hb];simp only[Opq];simp only[bC]at b;split at b
  ·rename_i o;have l:=avd (keep:=keep) (fn:=fn) H d (D! o);refine(afj (ro:=none) (n:=0)).1 (callsIn_of_wp_marks z hb trivial ?_ rfl);cases e1:Nl P G fn.ntmps keep e m pl lf c (DJ keep 0 args .nil) h with
   |bad=>rw[e1]at b;cases b
   |ex i k u=>rw[e1]at b;cases b
   |nor k u=>
    rw[e1]at b;refine wpIn_mono (y 0 w.heap.size [] _ _ _ _ _ (by rw[e1];simp) (h! _) trivial l) ?_;intro x a' w' q;rw[e1]at q;cases x<;>simp only[yC]at q;obtain⟨M',Df,m',a,s⟩:=q;show LeavesInM _ _ _ _ _ _ a'.defers _ _;rw[show a'.defers=Df from a.plain];refine aqS m' a.rel s λJ r2 t=>?_;obtain⟨rfl,v,p,g⟩:=OH r2 a.fr b;exact⟨v,p,v,rfl,M',g,r2,t⟩
   |ret k u=>
    rw[e1]at b;refine wpIn_mono (y 0 w.heap.size [] _ _ _ _ _ (by rw[e1];simp) (h! _) trivial l) ?_;intro x a' w' q;rw[e1]at q;cases x<;>simp only[yC]at q;obtain⟨M',Df,m',a,s⟩:=q;show LeavesInM _ _ _ _ _ _ a'.defers _ _;rw[show a'.defers=Df from a.plain];refine aqS m' a.rel s λJ r2 t=>?_;obtain⟨rfl,v,p,g⟩:=OH r2 a.fr b;exact⟨v,p,v,rfl,M',g,r2,t⟩
  ·cases b
end
theorem azr{P:Program}{G:Nat}:∀f I,(λ_=>none:Kt) f=some I->FV P G f I:=λ_ _ h=>by cases h
theorem aqT{P:Program}{G:Nat}{g:FuncId}{I:aj1}{e:Kt}(b:FV P G g I)(c:∀f F,e f=some F->FV P G f F):∀f a,(λf=>match b! f g with|true=>some I|false=>e f:Kt) f=some a->FV P G f a:=by
 intro f a h;simp only[]at h;split at h
 ·rename_i hb;cases h;rw[a! hb];exact b
 ·exact c f a h
section
variable{P:Program}{el:TypeId}
def badR(_:Hp):R V:=.bad
def aK5(_:F)(_:Hp):Out:=.bad
theorem dW:lf=10000000000000000000:=rfl
@[congr] theorem aJ5{o o':Out}(e:o=o')(k:F->Hp->Out):qF o k=qF o' k:=by rw[e]
@[congr] theorem aKK{o o':Option V}(e:o=o')(k:V->Out):gtO o k=gtO o' k:=by rw[e]
@[congr] theorem aKv{o o':R V}(e:o=o')(k:V->Hp->Out):aA o k=aA o' k:=by rw[e]
@[congr] theorem aKx{o o':A}(e:o=o')(k:Ob->(Pos->V)->Out):FQ o k=FQ o' k:=by rw[e]
@[congr] theorem aKJ{o o':V}(e:o=o')(a b:Out):ifB o a b=ifB o' a b:=by rw[e]
theorem VO(a b:F->Hp->Out)(fr:F)(h:Hp):aB a b fr h=qF (a fr h) b:=(rfl)
theorem KJ(fr:F)(h:Hp)(k:F->Hp->Out):qF (.nor fr h) k=k fr h:=(rfl)
theorem anq(fr:F)(h:Hp)(k:F->Hp->Out):qF (.ret fr h) k=.ret fr h:=(rfl)
theorem apA(i:Nat)(fr:F)(h:Hp)(k:F->Hp->Out):qF (.ex i fr h) k=.ex i fr h:=(rfl)
theorem ahF(v:V)(k:V->Out):gtO (some v) k=k v:=(rfl)
theorem amq(v:V)(h:Hp)(k:V->Hp->Out):aA (.ok v h) k=k v h:=(rfl)
theorem an2(ob:Ob)(mk:Pos->V)(k:Ob->(Pos->V)->Out):FQ (some (ob,mk)) k=k ob mk:=(rfl)
theorem aqW(a b:Out):ifB (.bool true) a b=a:=(rfl)
theorem anR(a b:Out):ifB (.bool false) a b=b:=(rfl)
theorem al7{p:Prop} [Decidable p](d:p)(a b:Out):ifB (.bool (decide p)) a b=a:=by rw[decide_eq_true d];rfl
theorem al8{p:Prop} [Decidable p](d:¬p)(a b:Out):ifB (.bool (decide p)) a b=b:=by rw[decide_eq_false d];rfl
theorem ahN(t:Nat)(a b:F->Hp->Out)(fr:F)(h:Hp):aV (.tmp t) a b fr h=gtO (fr.get (Pos.of t)) λv=>ifB v (a fr h) (b fr h):=(rfl)
def BK(id:Nat)(o:Out):Out:=match o with
 | .ex i fr h=>(match b! i id with|true=>.nor fr h|false=>.ex i fr h)
 |o=>o
theorem avx(id:Nat)(b:F->Hp->Out)(fr:F)(h:Hp):bK id b fr h=BK id (b fr h):=by unfold bK BK;cases b fr h<;>rfl
theorem arw(id:Nat)(fr:F)(h:Hp):BK id (.nor fr h)=.nor fr h:=(rfl)
theorem arv(id:Nat)(fr:F)(h:Hp):BK id (.ret fr h)=.ret fr h:=(rfl)
theorem amr(id i:Nat)(fr:F)(h:Hp):BK id (.ex i fr h)=if i=id then .nor fr h else .ex i fr h:=by
 unfold BK;split
 ·rename_i d;cases d;split
  ·rename_i hb;rw[if_pos (a! hb)]
  ·rename_i hb;rw[if_neg (n! hb)]
 ·rename_i e;exact absurd rfl (e _ _ _)
theorem rH(m n:Nat)(x:Option V)(fr:F):(T.set x (Pos.of m) fr).get (Pos.of n)=if n=m then x else fr.get (Pos.of n):=by
 by_cases e:n=m
 ·subst e;rw[if_pos rfl,T.nR]
 ·rw[if_neg e,T.rJ _ (λh=>e (Pos.acw h))]
theorem ahO{m:Hp->R V}{v:V}{k:Out}{l:List Hp}:chk m v k 0 l=k:=by cases l<;>rfl
theorem avv{m:Hp->R V}{v:V}{k:Out}{n:Nat}:chk m v k n []=k:=by cases n<;>rfl
def Oc(A B:F->Hp->Prop):Out->Prop
 | .nor fr h=>A fr h
 | .ret fr h=>B fr h
 |_=>False
def LS(id:Nat)(C A B:F->Hp->Prop):Out->Prop
 | .nor fr h=>C fr h
 | .ex i fr h=>i=id/\A fr h
 | .ret fr h=>B fr h
 | .bad=>False
theorem dZ{id:Nat}{body:F->Hp->Out}(I:Nat->F->Hp->Prop){A B:F->Hp->Prop}{n:Nat}{fr:F}{h:Hp}(p:n<lf)(j:I n fr h)
  (step:∀m fr h,I m fr h->LS id (λfr h=>∃m',m'<m/\I m' fr h) A B (body fr h)):Oc A B (BK id (dI body lf fr h)):=by
 have key:∀l n fr h,n<l->I n fr h->Oc A B (BK id (dI body l fr h)):=by
  intro l;induction l with
  |zero=>intro n fr h p;omega
  |succ l r=>
   intro n fr h p j;have d:=step n fr h j;rw[ajm];cases e:body fr h with
   |bad=>rw[e]at d;exact d.elim
   |nor f g=>
    rw[e]at d;obtain⟨m',s,o⟩:=d;exact r m' f g (by omega) o
   |ret f g=>rw[e]at d;exact d
   |ex i f g=>
    rw[e]at d;obtain⟨rfl,q⟩:=d;simp only[amr,if_true];exact q
 exact key lf n fr h p j
theorem Oc.then{A B:F->Hp->Prop}{o:Out}{k:F->Hp->Out}{Q:Out->Prop}(d:Oc A B o)(e:∀fr h,A fr h->Q (k fr h))(f:∀fr h,B fr h->Q (.ret fr h)):Q (qF o k):=by
 cases o with
 |nor fr h=>exact e fr h d
 |ret fr h=>exact f fr h d
 |ex i fr h=>exact d.elim
 |bad=>exact d.elim
def aX(P:Program)(d:List ResultVar)(Q:V->Hp->Prop)(o:Out):Prop:=∃r h,aU P d o=.ok r h/\Q r h
theorem aX.ret{d:List ResultVar}{Q:V->Hp->Prop}{fr:F}{h:Hp}{r:V}{h':Hp}(e:bW P d fr h (λvs=>bZ vs h)=.ok r h')(f:Q r h'):aX P d Q (.ret fr h):=⟨r,h',e,f⟩
theorem aX.nor{d:List ResultVar}{Q:V->Hp->Prop}{fr:F}{h:Hp}{r:V}{h':Hp}(e:bW P d fr h (λvs=>bZ vs h)=.ok r h')(f:Q r h'):aX P d Q (.nor fr h):=⟨r,h',e,f⟩
theorem uY(a b:Int):mG a b=decide (a=b):=by rw[zu];rfl
theorem Eo(a b:Int):uo a b=decide (a<=b):=QH a b
variable{h:Hp}{k:IntKind}{a b:Int}{c:EqC}
theorem wo(k:IntKind):b! (kix k) (kix k)=true:=by cases k<;>rfl
theorem wrap64_in{n:Int}(d: -9223372036854775808<=n)(e:n<9223372036854775808):wrap64 n=n:=by rw[anm];exact wrap_in d e
theorem QC(d: -9223372036854775808<=a+b)(e:a+b<9223372036854775808):aJ .add c (.int .i64 a) (.int .i64 b) h=.ok (.int .i64 (a+b)) h:=by
 show iy .i64 (wrap64 (a+b)) h=_;rw[wrap64_in d e,fU]
theorem Yv(d: -9223372036854775808<=a - b)(e:a - b<9223372036854775808):aJ .sub c (.int .i64 a) (.int .i64 b) h=.ok (.int .i64 (a - b)) h:=by
 show iy .i64 (wrap64 (a - b)) h=_;rw[wrap64_in d e,fU]
theorem aqs(h0:b≠0):aJ .rem c (.int .i64 a) (.int .i64 b) h=.ok (.int .i64 (a.tmod b)) h:=by
 show(match mG b 0 with|true=>R.bad|false=>iy .i64 (Int.tmod a b) h)=_;rw[uY,decide_eq_false h0,fU]
theorem aqA:aJ .eql c (.int k a) (.int k b) h=.ok (.bool (decide (a=b))) h:=by
 show(match b! (kix k) (kix k) with|true=>fE (mG a b) h|false=>.bad)=_;rw[wo,fK,uY]
theorem aqu:aJ .neq c (.int k a) (.int k b) h=.ok (.bool (decide (a≠b))) h:=by
 show(match b! (kix k) (kix k) with|true=>fE (not (mG a b)) h|false=>.bad)=_;rw[wo,fK,uY];simp
theorem aqw:aJ .lss c (.int k a) (.int k b) h=.ok (.bool (decide (a<b))) h:=by
 show(match b! (kix k) (kix k) with|true=>fE (not (uo b a)) h|false=>.bad)=_;rw[wo,fK,Eo,show(!decide (b<=a))=decide (a<b) from by rw[u!];simp]
theorem aqx:aJ .leq c (.int k a) (.int k b) h=.ok (.bool (decide (a<=b))) h:=by
 show(match b! (kix k) (kix k) with|true=>fE (uo a b) h|false=>.bad)=_;rw[wo,fK,Eo]
theorem aqy:aJ .gtr c (.int k a) (.int k b) h=.ok (.bool (decide (a>b))) h:=by
 show(match b! (kix k) (kix k) with|true=>fE (not (uo a b)) h|false=>.bad)=_;rw[wo,fK,Eo,show(!decide (a<=b))=decide (a>b) from by rw[u!];simp]
theorem aqz:aJ .geq c (.int k a) (.int k b) h=.ok (.bool (decide (a>=b))) h:=by
 show(match b! (kix k) (kix k) with|true=>fE (uo b a) h|false=>.bad)=_;rw[wo,fK,Eo]
theorem auU(q:Bool):oUn .not (.bool q) h=.ok (.bool (!q)) h:=by show fE (not q) h=_;rw[fK]
theorem ajb(x y:V):apf (.bool true) x y h=.ok x h:=(rfl)
theorem afp(x y:V):apf (.bool false) x y h=.ok y h:=(rfl)
theorem ajf(x:V)(l:V):dA 0 (.tuple (.cons x l)) h=.ok x h:=(rfl)
theorem aje(x y:V)(l:V):dA 1 (.tuple (.cons x (.cons y l))) h=.ok y h:=(rfl)
theorem ajd(x y z:V)(l:V):dA 2 (.tuple (.cons x (.cons y (.cons z l)))) h=.ok z h:=(rfl)
theorem auW:axG (.int k a) (.int k b) h=.ok (.int k (min a b)) h:=by
 show(match uo a b with|true=>R.ok (V.int k a) h|false=>.ok (.int k b) h)=_;rw[Eo];by_cases hl:a<=b
 ·rw[decide_eq_true hl,Int.min_eq_left hl]
 ·rw[decide_eq_false hl,Int.min_eq_right (by omega)]
theorem auX:aqj (.int k a) (.int k b) h=.ok (.int k (max a b)) h:=by
 show(match uo b a with|true=>R.ok (V.int k a) h|false=>.ok (.int k b) h)=_;rw[Eo];by_cases hl:b<=a
 ·rw[decide_eq_true hl,Int.max_eq_left hl]
 ·rw[decide_eq_false hl,Int.max_eq_right (by omega)]
theorem acz(d: -9223372036854775808<=a)(e:a<9223372036854775808):kT .i64 (.int k a) h=.ok (.int .i64 a) h:=by
 show iy .i64 (wrap64 a) h=_;rw[wrap64_in d e,fU]
theorem VX(z y:V)(j k:IntKind)(a b:Int):bY el [z,y] 2 [(0,1,.int j a),(1,1,.int k b)] h=.ok (.slice h.next 0 2 (.kn 2)) (h.new (.cells (.rw el true) [.int j a,.int k b])):=(rfl)
theorem avj(d i:TypeDesc)(a b a' b':Int)(k f:IntKind)(o:mZ d (.int k a)=true)(g:mZ i (.int f b)=true):Kq [(d,0),(i,1)] [.int k a,.int f b] [.int k a',.int f b']=some (decide (a=a'/\b=b')):=by
 have l:iI (.int k a) (.int k a')=some (decide (a=a')):=by
  show(match b! (kix k) (kix k) with|true=>some (mG a a')|false=>none)=_;rw[wo,uY]
 have m:iI (.int f b) (.int f b')=some (decide (b=b')):=by
  show(match b! (kix f) (kix f) with|true=>some (mG b b')|false=>none)=_;rw[wo,uY]
 simp only[Kq,mY,List.getElem?_cons_zero,List.getElem?_cons_succ,o,g,l,m];by_cases e:a=a'<;>by_cases j:b=b'<;>simp[e,j]
theorem QD(a b a' b':Int):aeG .eql [((.int .i64),0),((.int .i64),1)] (.agg (.cons (.int .i64 a) (.cons (.int .i64 b) .nil))) (.agg (.cons (.int .i64 a') (.cons (.int .i64 b') .nil))) h=.ok (.bool (decide (a=a'/\b=b'))) h:=by
 show(match Kq _ [.int .i64 a,.int .i64 b] [.int .i64 a',.int .i64 b'] with|some q=>(match BinOp.eql with| .eql=>fE q h| .neq=>fE (not q) h|_=>.bad)|none=>.bad)=_;rw[avj _ _ _ _ _ _ _ _ rfl rfl];exact fK _ _
theorem acD(a b a' b':Int):aeG .neq [((.int .i64),0),((.int .i64),1)] (.agg (.cons (.int .i64 a) (.cons (.int .i64 b) .nil))) (.agg (.cons (.int .i64 a') (.cons (.int .i64 b') .nil))) h=.ok (.bool (decide ¬(a=a'/\b=b'))) h:=by
 show(match Kq _ [.int .i64 a,.int .i64 b] [.int .i64 a',.int .i64 b'] with|some q=>(match BinOp.neq with| .eql=>fE q h| .neq=>fE (not q) h|_=>.bad)|none=>.bad)=_;rw[avj _ _ _ _ _ _ _ _ rfl rfl];refine(fK _ _).trans ?_;congr 2;by_cases e:a=a'/\b=b'<;>simp[e]
theorem aaj(i:Pos)(o off:Nat):aC off (.ptr i o) h=.ok (.ptr i (o+off)) h:=by show dY (o+off) (λq=>R.ok (V.ptr i q) h)=_;rw[dF]
theorem aza{i j:Pos}(h:i.nat≠j.nat):i≠j:=λe=>h (by rw[e])
theorem axA{i j:Pos}(h:i≠j):i.nat≠j.nat:=λe=>h (Pos.uK e)
theorem jE(h:Hp)(i:Pos)(o:Option Ob):(h.put i o).get i=o:=h.dQ i o
theorem PZ(h:Hp){i j:Pos}(d:j.nat≠i.nat)(o:Option Ob):(h.put i o).get j=h.get j:=h.cO (aza d) o
theorem dR(h:Hp)(o:Ob):(h.new o).get h.next=some o:=h.pX o
theorem new_ne(h:Hp){j:Pos}(d:j.nat≠h.next.nat)(o:Ob):(h.new o).get j=h.get j:=h.jl (aza d) o
theorem jQ(h:Hp)(i:Pos)(o:Option Ob):(h.put i o).next=h.next:=(rfl)
theorem aBR(h:Hp)(o:Ob):(h.new o).next=h.next.succ:=(rfl)
theorem bD(h:Hp)(o:Ob):(h.new o).next.nat=h.next.nat+1:=Pos.fA _
theorem ajI(h:Hp):aI 0 h=h:=(rfl)
theorem wH(n:Nat)(h:Hp):(aI n h).next.nat=h.next.nat+n:=ahQ n _
structure Fr (b:Nat) (h h':Hp):Prop where
 next:h.next.nat<=h'.next.nat
 get:∀j,j.nat<b->h'.get j=h.get j
structure Sl (b:Nat) (h:Hp) (sz:Nat) (v:V) (n:Nat) (cs:List V):Prop where
 len:cs.length=n*sz
 is:(n=0/\(v=.aQ\/v=.emp))\/∃i o c wr all,v=.slice i o n c/\i.nat<b/\(h.get i).bind Ob.row=some (wr,all)/\∀k,k<n*sz->all[o+k]?=cs[k]?
variable{b' n sz bt:Nat}{h':Hp}{v x:V}{cs:List V}
theorem Sl.le{b:Nat}(s:Sl b h sz v n cs)(hb:b<=b'):Sl b' h sz v n cs:=⟨s.len,s.is.imp id λ⟨i,o,c,wr,all,e,hi,r⟩=>⟨i,o,c,wr,all,e,by omega,r⟩⟩
theorem dM{i:Pos}{wr:Wr}{all:List V}(d:(h.get i).bind Ob.row=some (wr,all))(f:Wr->List V->R V):dP h i f=f wr all:=by
 unfold dP;cases e:h.get i with
 |none=>rw[e]at d;cases d
 |some o=>
  rw[e]at d;cases o<;>cases d<;>rfl
theorem ajc{i:Pos}{wr:Wr}{all:List V}{q:Nat}{x:V}(d:(h.get i).bind Ob.row=some (wr,all))(e:all[q]?=some x):aF (.ptr i q) h=.ok x h:=by
 show dP h i _=_;rw[dM d,mY,e]
theorem Sl.length{b:Nat}(s:Sl b h sz v n cs):aZ 2 v h'=.ok (.int .i64 n) h':=by
 rcases s.is with⟨rfl,rfl|rfl⟩|⟨i,o,c,wr,all,rfl,_⟩<;>rfl
theorem xQ{i:Pos}{o m:Nat}{c:Cap}{j:IntKind}(d:m<n):bJ sz (.slice i o n c) (.int j (m:Int)) h=.ok (.ptr i (o+m*sz)) h:=by
 show(match C! m n with|true=>dY (o+m*sz) λq=>R.ok (V.ptr i q) h|false=>.bad)=_;have:C! m n=true:=by simpa[v!]using d
 rw[this,dF]
theorem Sl.at{b:Nat}(s:Sl b h sz v n cs){m:Nat}(e:m<n):∃i q,(∀h',bJ sz v (.int .i64 (m:Int)) h'=.ok (.ptr i q) h')/\i.nat<b/\∀h',h'.get i=h.get i->∀f x,f<sz->cs[m*sz+f]?=some x->aF (.ptr i (q+f)) h'=.ok x h':=by
 rcases s.is with⟨rfl,_⟩|⟨i,o,c,wr,all,rfl,hi,l,g⟩
 ·omega
 ·refine⟨i,o+m*sz,λh'=>xQ e,hi,λh' j f x t p=>?_⟩;refine ajc (by rw[j];exact l) ?_;have d:m*sz+f<n*sz:=by
   have r:m*sz+sz<=n*sz:=by rw[<-B!];exact F! sz e
   omega
  rw[<-p,<-g _ d,r!]
theorem Sl.at1{b:Nat}(s:Sl b h 1 v n cs){m:Nat}(l:m<n):∃i q x,cs[m]?=some x/\(∀h',bJ 1 v (.int .i64 (m:Int)) h'=.ok (.ptr i q) h')/\i.nat<b/\∀h',h'.get i=h.get i->aF (.ptr i q) h'=.ok x h':=by
 obtain⟨i,q,e,f,g⟩:=s.at l;have hl:=s.len;have d:cs[m]?=some cs[m]:=k! (by omega);exact⟨i,q,_,d,e,f,λh' j=>g h' j 0 _ (by omega) (by simp only[Nat.mul_one,Nat.add_zero];exact d)⟩
theorem vP{all cs:List V}{q m:Nat}(l:∀f,f<m->all[q+f]?=cs[f]?)(hl:cs.length=m):gm m (fB q all)=some cs:=by
 have j:∀f,f<m->(all.drop q)[f]?=cs[f]?:=λf d=>by rw[J!];exact l f d
 have g:m<=(all.drop q).length:=by
  rcases T! (all.drop q).length m with i|e
  ·have:=j _ i;rw[o! (h! _),k! (by omega)]at this;cases this
  ·exact e
 rw[jH,Fq g];congr 1;apply List.ext_getElem?;intro f;rw[I!];split
 ·rename_i d;exact j f d
 ·rename_i d;rw[o! (by omega)]
theorem Sl.atN{b:Nat}(s:Sl b h sz v n cs){m:Nat}(l:m<n):∃i q,(∀h',bJ sz v (.int .i64 (m:Int)) h'=.ok (.ptr i q) h')/\i.nat<b/\
  (∀h',h'.get i=h.get i->∀f x,f<sz->cs[m*sz+f]?=some x->aF (.ptr i (q+f)) h'=.ok x h')/\
  ∀h',h'.get i=h.get i->bT sz (.ptr i q) h'=.ok (.agg (V.ofList ((cs.drop (m*sz)).take sz))) h':=by
 rcases s.is with⟨rfl,_⟩|⟨i,o,c,wr,all,rfl,hi,j,e⟩
 ·omega
 ·have p:m*sz+sz<=n*sz:=by rw[<-B!];exact F! sz l
  refine⟨i,o+m*sz,λh'=>xQ l,hi,λh' d f x g r=>?_,λh' d=>?_⟩
  ·refine ajc (by rw[d];exact j) ?_;rw[<-r,<-e _ (by omega),r!]
  ·show dP h' i _=_;rw[dM (by rw[d];exact j)];have:gm sz (fB (o+m*sz) all)=some ((cs.drop (m*sz)).take sz):=vP (λf g=>by
    rw[I!,if_pos g,J!,<-e _ (by omega),r!]) (by rw[List.length_take,List.length_drop,s.len];omega)
   rw[this]
structure Ow (b:Nat) (h:Hp) (el:TypeId) (sz:Nat) (v:V) (n:Nat) (cs:List V):Prop where
 len:cs.length=n*sz
 is:(n=0/\v=.aQ)\/∃i,v=.slice i 0 n (.un sz)/\b<=i.nat/\i.nat<h.next.nat/\∃f,h.get i=some (.cells (.rw el f) cs)
theorem Ow.nil(b:Nat)(h:Hp)(el:TypeId)(sz:Nat):Ow b h el sz .aQ 0 []:=⟨by simp,.inl ⟨rfl,rfl⟩⟩
theorem Ow.sl{b:Nat}(s:Ow b h el sz v n cs):Sl h.next.nat h sz v n cs:=⟨s.len,by
 rcases s.is with⟨rfl,rfl⟩|⟨i,rfl,_,hi,f1,d⟩
 ·exact .inl ⟨rfl,.inl rfl⟩
 ·exact .inr ⟨i,0,_,.rw el f1,cs,rfl,hi,by rw[d];rfl,λk _=>by rw[A!]⟩⟩
theorem Ow.keep{b:Nat}(s:Ow b h el sz v n cs)(f:h.next.nat<=h'.next.nat)(d:∀j,b<=j.nat->j.nat<h.next.nat->h'.get j=h.get j):Ow b h' el sz v n cs:=⟨s.len,by
 rcases s.is with⟨rfl,rfl⟩|⟨i,rfl,hb,hi,f1,e⟩
 ·exact .inl ⟨rfl,rfl⟩
 ·exact .inr ⟨i,rfl,hb,by omega,f1,by rw[d i hb hi];exact e⟩⟩
theorem ab7(l:List V):gm l.length l=some l:=by rw[Fq (h! _)];simp
def bH:V->Option Pos
 | .slice i _ _ _=>some i
 |_=>none
def Sep(v u:V):Prop:=∀i,bH v=some i->bH u≠some i
theorem Sep.symm{u v:V}(h:Sep v u):Sep u v:=λi a b=>h i b a
theorem qX(z:V)(k:IntKind)(a:Int):bY el [z] 1 [(0,1,.int k a)] h=.ok (.slice h.next 0 1 (.kn 1)) (h.new (.cells (.rw el true) [.int k a])):=(rfl)
theorem aqo(z y:V)(j k:IntKind)(a b:Int):bQ [z,y] [(0,1,.int j a),(1,1,.int k b)] h=.ok (.agg (.cons (.int j a) (.cons (.int k b) .nil))) h:=(rfl)
theorem aak(z y u w:V):bY el [z,y] 1 [(0,2,.agg (.cons u (.cons w .nil)))] h=.ok (.slice h.next 0 1 (.kn 1)) (h.new (.cells (.rw el true) [u,w])):=(rfl)
theorem Sl.src{b m:Nat}{new:List V}(t:Sl b h sz x m new)(f:Nat->List V->R V):vT sz x h f=f m new:=by
 rcases t.is with⟨rfl,g⟩|⟨i,o,c,wr,all,rfl,hi,e,d⟩
 ·have:new= []:=List.length_eq_zero_iff.1 (by rw[t.len];simp);subst this;rcases g with rfl|rfl<;>rfl
 ·show dP h i _=_;rw[dM e,vP d t.len]
theorem tH{n:Nat}(d:n*bt<=140737488355328)(C:List V)(g f:Hp):oG el sz bt n C g f=.ok (.slice g.next 0 n (.un sz)) (f.new (.cells (.rw el false) C)):=by
 unfold oG;rw[show U! (Nat.mul n bt) 140737488355328=true from Nat.ble_eq_true_of_le d]
theorem FP{c m:Nat}{new cs0:List V}{p:Pos}{wr:Wr}(t:Sl c h sz x m new)(g:0<m)(e:(h.get p).bind Ob.row=some (wr,cs0))(f:m*bt<=140737488355328):
  cZ el sz bt (.slice p 0 0 (.kn 0)) x h=.ok (.slice h.next 0 m (.un sz)) (h.new (.cells (.rw el false) new)):=by
 unfold cZ;rw[t.src];cases m with
 |zero=>omega
 |succ m=>
  simp only[];rw[dM e];simp only[dF,A!,Nat.zero_mul];have h0:U! (m+1) 0=false:=rfl;have d:gm 0 (fB 0 cs0)=some []:=by rw[Fq (Nat.zero_le _)];rfl
  rw[h0,d];simp only[List.nil_append,tH f]
theorem Jo{m:Hp->R V}{v:V}{k:Out}{g d:Hp}(e:m g=.ok v d)(f:eqV v v=true):chk m v k 1 [g]=k:=by
 show(match m g with| .ok i _=>(match eqV v i with|true=>chk m v k 0 []|false=>.bad)| .bad=>.bad)=_;rw[e];simp only[f];exact ahO
theorem aEB(k:IntKind)(a:Int):eqV (.int k a) (.int k a)=true:=by
 show(match b! (kix k) (kix k) with|true=>mG a a|false=>false)=true;rw[wo,uY];simp
theorem aao(z:V)(k:IntKind)(a:Int):eH el [z] 1 [(0,1,.int k a)]=some (.cells (.rw el true) [.int k a],λp=>.slice p 0 1 (.kn 1)):=(rfl)
theorem VW(z y f e u w d w':V):bY el [z,y,f,e] 2 [(0,2,.agg (.cons u (.cons w .nil))),(2,2,.agg (.cons d (.cons w' .nil)))] h=.ok (.slice h.next 0 2 (.kn 2)) (h.new (.cells (.rw el true) [u,w,d,w'])):=(rfl)
structure MapI (es:List (V×V)) (f:Int->Option V):Prop where
 keys:∀p∈es,∃a,p.1=.int .i64 a
 find:∀a,wu (.int .i64 a) es=some (f a)
end
end Go.Vm
