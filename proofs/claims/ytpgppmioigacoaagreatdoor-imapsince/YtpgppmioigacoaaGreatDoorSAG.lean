/- Lemmas that the claim's last text uses. No conditions. -/
import Derived.Test.YtpgppmioigacoaaGreatDoorSAF
import Derived.Defers
import Derived.Laws.LoneSync
import Derived.Recover
import Derived.ProofKit
import Derived.OpenShut
import Derived.ShutString
import Derived.ChangeOld
import Derived.Below
set_option linter.all false
open Nat renaming eq_of_beq_eq_true→a!,beq→b!,le_refl→j!,ne_of_beq_eq_false→l!,blt_eq→t!,add_assoc→y!,zero_add→A!,blt→B!,le_of_ble_eq_true→C!,mul_le_mul_right→E!,succ_mul→O!,lt_or_ge→P!,ble→Q!
open Go.World renaming putObj_heap_other→c!,putObj_heap_same→x!,alloc_heap_new→z!
open Array renaming getElem?_eq_some_iff→d!,getD_eq_getD_getElem?→h!,getElem?_eq_getElem→i!,replicate→k!,getElem?_push→p!,size_setIfInBounds→u!
open Bool renaming and_eq_true→e!,eq_iff_iff→r!,not_eq_true'→J!
open List renaming range'→g!,getElem?_eq_none→n!,all_eq_true→q!,getElem?_eq_getElem→v!,filterMap_cons_some→w!,getElem?_take→F!,getElem?_drop→G!,range'_succ→K!,mem_range'→L!,map_cons→M!
open Go.Region renaming wanted→o!
noncomputable section
namespace Go.Vm
section
variable{G N:Nat}{M:Mp}{h:Hp}{w:World}{keep:Nat->Bool}
abbrev DV:=FuncId×List V×List V
abbrev DS:=List DV
inductive OutD where
 |nor (fr:F) (h:Hp) (ds:DS)
 |ret (fr:F) (h:Hp) (ds:DS)
 |bad
def agO(fr:F):List Operand->Option (List V)
 | []=>some []
 |x::l=>(match x with
  | .tmp t=>(match fr.get (Pos.of t) with|some v=>(match agO fr l with|some vs=>some (v::vs)|none=>none)|none=>none)
  | .const c=>(match const c with|some v=>(match agO fr l with|some vs=>some (v::vs)|none=>none)|none=>none)
  | .func f=>(match agO fr l with|some vs=>some (.func (.func f) .nil .nil::vs)|none=>none)
  | .global _=>none)
def aHU(o:Oper):Bool:=match o.op with| .defer _=>true|_=>false
def defers:Code->Bool
 | .region _ ops _=>ops.toList.any aHU
 | .seq a b=>defers a||defers b
 | .cond _ a b=>defers a||defers b
 |_=>false
theorem ZW{Df:List Deferred}{fr:F}{a:Act}(at_:At keep G N Df M fr h a w):∀{l:List Operand} {vs:List V},agO fr l=some vs->bV M vs (l.map a.eval)
 | [],vs,b=>by cases b;rfl
 |x::l,vs,b=>by
  simp only[agO]at b;split at b
  ·rename_i t;split at b
   ·rename_i v e;split at b
    ·rename_i g d;cases b;exact⟨_,_,(at_.fr t v e).2,ZW at_ d,rfl⟩
    ·cases b
   ·cases b
  ·rename_i c;split at b
   ·rename_i v e;split at b
    ·rename_i g d;cases b;exact⟨_,_,Tc e M,ZW at_ d,rfl⟩
    ·cases b
   ·cases b
  ·rename_i f;split at b
   ·rename_i g d;cases b;exact⟨_,_,⟨rfl,.func f,[],[],rfl,⟨rfl,rfl⟩,rfl,rfl,rfl⟩,ZW at_ d,rfl⟩
   ·cases b
  ·cases b
end
section
variable{P:Program}{G:Nat}{M:Mp}{h h':Hp}{w:World}{keep:Nat->Bool}{e:FuncId->Option Fun}{r:V}
def aLe(P:Program)(G:Nat)(f:FuncId)(F:Fun):Prop:=
 ∀(args:List V) (h:Hp) (r:V) (h':Hp) (M:Mp) (w:World) (cargs:List Value),F args h=.ok r h'->Rel G M h w->bV M args cargs->
  (callFunc f cargs.toArray).run P w=.ok (.enter f cargs.toArray) w/\
  CallsD P f cargs.toArray .returning w λe u w'=>u=.returning/\∃c,e=.returned c/\Post G M h w r h' c w'
def aEL(P:Program)(G:Nat)(f:FuncId)(F:Fun):Prop:=
 ∃fn c,P.funcs[f]?=some fn/\fn.body=some c/\(∀args w,(callFunc f args).run P w=.ok (.enter f args) w)/\
 ∀(args:List V) (h:Hp) (r:V) (h':Hp) (M:Mp) (w:World) (cargs:List Value),F args h=.ok r h'->Rel G M h w->bV M args cargs->
  c.wp P (bodyPost P fn λe w'=>∃c,e=.returned c/\Post G M h w r h' c w') {tmps:=cargs.toArray++k! (fn.ntmps - cargs.toArray.size) undef,defers:= []} w
theorem aEL.deferred{f:FuncId}{F:Fun}(hb:aEL P G f F):aLe P G f F:=by
 obtain⟨fn,c,a,b,d,g⟩:=hb;intro args h r h' M w cargs e j i;exact⟨d _ _,callsD_of_wp a b (g args h r h' M w cargs e j i)⟩
theorem aee{f:FuncId}{fn:Func}{c:Code}(b:P.funcs[f]?=some fn)(d:(fn.name== "runtime.NumGoroutine")=false)(hb:fn.body=some c)(args:Array Value)(w:World):
  (callFunc f args).run P w=.ok (.enter f args) w:=by
 unfold callFunc;rw[Sem.run_bind,run_program];have a:¬fn.name= "runtime.NumGoroutine" :=by simpa using d
 simp[b,a,hb]
theorem ayk{fn:Func}{args:List V}{cargs:List Value}(m:Rel G M h w)(f:bV M args cargs)(l:args.length<=fn.ntmps):
  At keep G fn.ntmps [] M (DT keep 0 args .nil) h {tmps:=cargs.toArray++k! (fn.ntmps - cargs.toArray.size) undef,defers:= []} w:=by
 have g:=f.length;refine⟨m,aam keep _ args 0 _ (λj v k=>?_) (λt v i=>by rw[T.get_nil]at i;cases i),by simp;omega,rfl⟩;obtain⟨x,d,c⟩:=f.get k;have b:j<cargs.length:=by
  rcases P! j cargs.length with a|a
  ·exact a
  ·rw[n! a]at d;cases d
 have:(cargs.toArray++k! (fn.ntmps - cargs.toArray.size) undef).getD (0+j) undef=x:=by
  rw[h!,Array.getElem?_append_left (by simpa using b)];simp[d]
 simp only[this];exact c
end
section
variable{P:Program}{G:Nat}
def levels(base:FuncId->Option Fun)(st:(FuncId->Option Fun)->FuncId->Option Fun):Nat->FuncId->Option Fun
 |0=>base
 |n+1=>st (levels base st n)
theorem aeC{base:FuncId->Option Fun}{st:(FuncId->Option Fun)->FuncId->Option Fun}(hb:∀f F,base f=some F->aG P G f F)
  (a:∀e,(∀f F,e f=some F->aG P G f F)->∀f F,st e f=some F->aG P G f F):∀n f F,levels base st n f=some F->aG P G f F
 |0=>hb
 |n+1=>a _ (aeC hb a n)
def arW(e:FuncId->Option Fun)(f:FuncId):Fun:=match e f with
 |some F=>F
 |none=>λ_ _=>.bad
theorem as1{e:FuncId->Option Fun}(a:∀f F,e f=some F->aG P G f F)(f:FuncId):aG P G f (arW e f):=by
 unfold arW;cases h:e f with
 |some F=>exact a f F h
 |none=>intro args h r h' M w cargs e;cases e
end
def aFJ:Fn->Fn->Bool
 | .func g,x=>(match x with| .func k=>b! g k|_=>false)
 |_,_=>false
theorem aH6{f g:Fn}(h:aFJ f g=true):f=g:=by
 unfold aFJ at h;split at h
 ·split at h
  ·rw[a! h]
  ·cases h
 ·cases h
def kN:V->V->Bool
 | .func f a b,x=>(match x with| .func g c d=>(match aFJ f g with|true=>(match kN a c with|true=>kN b d|false=>false)|false=>false)|_=>false)
 | .agg l,x=>(match x with| .agg k=>kN l k|_=>false)
 | .tuple l,x=>(match x with| .tuple k=>kN l k|_=>false)
 | .iface t v,x=>(match x with| .iface u w=>(match b! t u with|true=>kN v w|false=>false)|_=>false)
 | .cons a b,x=>(match x with| .cons c d=>(match kN a c with|true=>kN b d|false=>false)|_=>false)
 |v,x=>eqV v x
theorem vM:∀(a b:V),kN a b=true->a=b
 | .func f a b,x,h=>by
  simp only[kN]at h;split at h
  ·split at h
   ·rename_i e1;split at h
    ·rename_i e2;rw[aH6 e1,vM a _ e2,vM b _ h]
    ·cases h
   ·cases h
  ·cases h
 | .agg l,x,h=>by
  simp only[kN]at h;split at h
  ·rw[vM l _ h]
  ·cases h
 | .tuple l,x,h=>by
  simp only[kN]at h;split at h
  ·rw[vM l _ h]
  ·cases h
 | .iface t v,x,h=>by
  simp only[kN]at h;split at h
  ·split at h
   ·rename_i e1;rw[a! e1,vM v _ h]
   ·cases h
  ·cases h
 | .cons a b,x,h=>by
  simp only[kN]at h;split at h
  ·split at h
   ·rename_i e2;rw[vM a _ e2,vM b _ h]
   ·cases h
  ·cases h
 | .bool _,x,h=>by unfold kN at h;exact sZ h
 | .int _ _,x,h=>by unfold kN at h;exact sZ h
 | .str _,x,h=>by unfold kN at h;exact sZ h
 | .ptr _ _,x,h=>by unfold kN at h;exact sZ h
 | .bY,x,h=>by unfold kN at h;exact sZ h
 | .slice _ _ _ _,x,h=>by unfold kN at h;exact sZ h
 | .aO,x,h=>by unfold kN at h;exact sZ h
 | .emp,x,h=>by unfold kN at h;exact sZ h
 | .map _,x,h=>by unfold kN at h;exact sZ h
 | .jW,x,h=>by unfold kN at h;exact sZ h
 | .iH,x,h=>by unfold kN at h;exact sZ h
 | .oH,x,h=>by unfold kN at h;exact sZ h
 | .nil,x,h=>by unfold kN at h;exact sZ h
def eqL:List V->List V->Bool
 | [],x=>(match x with| []=>true|_::_=>false)
 |a::l,x=>(match x with| []=>false|b::k=>(match kN a b with|true=>eqL l k|false=>false))
theorem aeJ:∀{l k:List V},eqL l k=true->l=k
 | [],k,h=>by cases k with
  |nil=>rfl
  |cons a k=>cases h
 |a::l,k,h=>by
  cases k with
  |nil=>cases h
  |cons b k=>
   simp only[eqL]at h;split at h
   ·rename_i e;rw[vM _ _ e,aeJ h]
   ·cases h
def aA6:List (V×V)->List (V×V)->Bool
 | [],x=>(match x with| []=>true|_::_=>false)
 |a::l,x=>(match x with| []=>false|b::k=>(match kN a.1 b.1,kN a.2 b.2 with|true,true=>aA6 l k|_,_=>false))
theorem ayq:∀{l k:List (V×V)},aA6 l k=true->l=k
 | [],k,h=>by cases k with
  |nil=>rfl
  |cons a k=>cases h
 |a::l,k,h=>by
  cases k with
  |nil=>cases h
  |cons b k=>
   simp only[aA6]at h;split at h
   ·rename_i e1 e2;obtain⟨a1,a2⟩:=a;obtain⟨b1,b2⟩:=b;have e1:=vM _ _ e1;have e2:=vM _ _ e2;simp only at e1 e2;rw[e1,e2,ayq h]
   ·cases h
def aFH:Wr->Wr->Bool
 | .ro,x=>(match x with| .ro=>true| .rw _ _=>false)
 | .rw t f,x=>(match x with| .ro=>false| .rw u g=>(match b! t u with|true=>(match f,g with|true,true=>true|false,false=>true|true,false=>false|false,true=>false)|false=>false))
theorem aH4{a b:Wr}(h:aFH a b=true):a=b:=by
 cases a with
 |ro=>cases b with
  |ro=>rfl
  |rw t f=>cases h
 |rw t f=>cases b with
  |ro=>cases h
  |rw u g=>
   simp only[aFH]at h;split at h
   ·rename_i e;rw[a! e];cases f<;>cases g<;>first|rfl|cases h
   ·cases h
def SX(a b:Ob):Bool:=match a with
 | .cells w l=>(match b with| .cells u k=>(match aFH w u with|true=>eqL l k|false=>false)|_=>false)
 | .bytes l=>(match b with| .bytes k=>eqL l k|_=>false)
 | .map l=>(match b with| .map k=>aA6 l k|_=>false)
 |_=>false
theorem aoQ{a b:Ob}(h:SX a b=true):a=b:=by
 unfold SX at h;split at h
 ·split at h
  ·split at h
   ·rename_i e;rw[aH4 e,aeJ h]
   ·cases h
  ·cases h
 ·split at h
  ·rw[aeJ h]
  ·cases h
 ·split at h
  ·rw[ayq h]
  ·cases h
 ·cases h
section
variable{P:Program}{G:Nat}
def aum(c:Nat):List Nat->Nat
 | []=>0
 |d::l=>(match b! d c with|true=>Nat.succ (aum c l)|false=>aum c l)
theorem ayx{c:Nat}(a:c<256):∀{l:List Nat},(∀b∈l,b<256)->aum c l=Go.Lib.countByte (l.map UInt8.ofNat) (UInt8.ofNat c)
 | [],_=>rfl
 |d::l,h=>by
  have hd:=h d (by simp);have f:=ayx a (l:=l) λb hb=>h b (by simp[hb]);have e:(UInt8.ofNat d==UInt8.ofNat c)=b! d c:=by
   rw[r!];simp only[beq_iff_eq];exact⟨λh=>by rw[F7 hd a h];exact Nat.beq_refl c,λh=>by rw[a! h]⟩
  unfold Go.Lib.countByte at f⊢;rw[M!,List.count_cons,e];simp only[aum];cases b! d c<;>simp[f]
def cntF:Fun:=λargs h=>match args with
 | [s,c]=>(match s with
  | .str l=>(match c with
   | .int k n=>(match b! (kix k) 4 with
    |true=>(match n with
     | .ofNat b=>(match B! b 256 with|true=>jd .i64 (.ofNat (aum b l)) h|false=>.bad)
     | .negSucc _=>.bad)
    |false=>.bad)
   |_=>.bad)
  |_=>.bad)
 |_=>.bad
theorem aIe{f:FuncId}{fn:Func}(v:P.funcs[f]?=some fn)(d:(fn.name== "runtime.NumGoroutine")=false)(hb:fn.body.isNone=true)(y:Extern.findNext fn=none)(u:Extern.find fn=some Extern.BytealgCount.count):aG P G f cntF:=by
 intro args h r h' M w cargs e t a;unfold cntF at e;split at e
 ·rename_i s c;split at e
  ·rename_i l;split at e
   ·rename_i k n;split at e
    ·rename_i x;have p:k=.u8:=by cases k<;>first|rfl|cases x
     subst p;split at e
     ·rename_i b;split at e
      ·rename_i i;have j:b<256:=by simpa[t!]using i
       obtain⟨cs,x1,o,⟨B,z,m,q,rfl⟩,rfl⟩:=a;rw[show z= [] from q];obtain⟨hl,rfl⟩:=o.str;have g:=m.int;subst g;rw[iq]at e;cases e;rw[run_callFunc_extern v d hb y u,Go.Lib.run_countString];simp only[Result.andThen,Opq];refine⟨M,?_,t,.refl t⟩;have e1:(bts l).data.toList=l.map UInt8.ofNat:=by simp[bts]
       have e2:((Int.ofNat b).toNat.toUInt8)=UInt8.ofNat b:=rfl;rw[e1,e2,<-ayx j hl];exact gZ M _ _
      ·cases e
     ·cases e
    ·cases e
   ·cases e
  ·cases e
 ·cases e
end
section
variable{P:Program}{G N:Nat}{M M':Mp}{h h':Hp}{w w':World}{keep:Nat->Bool}{e:FuncId->Option Fun}
theorem Pos.MN(p:Pos):Pos.of p.nat=p:=Pos.yx (Pos.gV _)
def ar2:Obj->Bool
 | .loop _=>true
 | .deferred _=>true
 |_=>false
theorem kJ.hidden{L:Loc}{o:Ob}(d:kJ M L w o){b:Obj}(hb:w.heap[L.blk]?=some b):ar2 b=false:=by
 cases o with
 |cells wr cs=>obtain⟨c,el,fr,a,_⟩:=d;rw[a]at hb;cases hb;rfl
 |map es=>obtain⟨en,f,a,_⟩:=d;rw[a]at hb;cases hb;rfl
 |iter s p=>rw[d.2]at hb;cases hb;rfl
 |bytes cs=>obtain⟨c,el,fr,a,_⟩:=d;rw[a]at hb;cases hb;rfl
theorem Rel.hidden(f:Rel G M h w){b:Nat}{ob:Obj}(hb:w.heap[b]?=some ob)(hh:ar2 ob=true){i:Pos}{o:Ob}{L:Loc}(hi:h.get i=some o)(c:M i=some L):L.blk≠b:=by
 intro e;subst e;obtain⟨g,a,d⟩:=f.ob i o hi;rw[c]at a;cases a;rw[d.hidden hb]at hh;cases hh
theorem Rel.kept(c:Rel G M h w)(x:Ext M h w M' h' w'){b:Nat}{ob:Obj}(hb:w.heap[b]?=some ob)(hh:ar2 ob=true):w'.heap[b]?=some ob:=by
 rw[x.same b (d!.1 hb).1 λi o L hi _ a=>c.hidden hb hh hi a];exact hb
theorem Rel.putObj(a:Rel G M h w){b:Nat}{ob:Obj}(hb:w.heap[b]?=some ob)(hh:ar2 ob=true)(o':Obj):Rel G M h (w.putObj b o'):=by
 refine⟨λi o hi=>?_,a.fresh,a.sep,a.gl⟩;obtain⟨L,c,d⟩:=a.ob i o hi;exact⟨L,c,d.of_block (c! (a.hidden hb hh hi c))⟩
theorem Rel.Tf(a:Rel G M h w)(ob:Obj):Rel G M h (w.alloc ob):=by
 refine⟨λi o hi=>?_,a.fresh,a.sep,a.gl⟩;obtain⟨L,c,b⟩:=a.ob i o hi;refine⟨L,c,b.of_block ?_⟩;show(w.heap.push ob)[L.blk]?=w.heap[L.blk]?;rw[p!,if_neg (by have:=b.lt;omega)]
theorem Ext.putObj{d:Mp}{h0:Hp}{c:World}(x:Ext d h0 c M h w){b:Nat}(hb:c.heap.size<=b)(o':Obj):Ext d h0 c M h (w.putObj b o'):=
 ⟨x.le,x.next,x.os,x.tape,x.output,by rw[World.putObj_size];exact x.size,λk f a=>by rw[c! (by omega)];exact x.same k f a,x.own,x.old,x.all,x.none⟩
theorem Ext.Tf{c:Mp}{h0:Hp}{b:World}(x:Ext c h0 b M h w)(ob:Obj):Ext c h0 b M h (w.alloc ob):=
 ⟨x.le,x.next,x.os,x.tape,x.output,by have:=x.size;show b.heap.size<=(w.heap.push ob).size;rw[Array.size_push];omega,λk d a=>by
  rw[<-x.same k d a];show(w.heap.push ob)[k]?=w.heap[k]?;have:=x.size;rw[p!,if_neg (by omega)],x.own,x.old,x.all,x.none⟩
theorem aC3(a:Rel G M h w)(L:Loc):Rel G (M.add h.next L) (aH 1 h) w/\Ext M h w (M.add h.next L) (aH 1 h) w:=by
 have k:M h.next=none:=a.fresh _ (j! _);have d:=Mp.XW k L;have l:(aH 1 h).next=h.next.succ:=rfl;have x:∀i,(aH 1 h).get i=h.get i:=λ_=>rfl;refine⟨⟨λi o hi=>?_,λi hi=>?_,λi j o p A B f hi u m c t=>?_,λg r=>?_⟩,⟨d,?_,rfl,rfl,rfl,j! _,λ_ _ _=>rfl,λi o A hi m c=>?_,λi _ f=>f,λi o A hi c=>?_,λi hi f=>?_⟩⟩
 ·obtain⟨A,c,m⟩:=a.ob i o hi;exact⟨A,d _ _ c,m.mono d⟩
 ·rw[l,Pos.fG]at hi;rw[M.iC (λe=>by rw[e]at hi;omega)];exact a.fresh i (by omega)
 ·obtain⟨s,b,_⟩:=a.ob i o hi;obtain⟨v,q,_⟩:=a.ob j p u;rw[M.iC (a.ne_next b)]at c;rw[M.iC (a.ne_next q)]at t;exact a.sep i j o p A B f hi u m c t
 ·obtain⟨n,f⟩:=a.gl g r;exact⟨n,d _ _ f⟩
 ·rw[l,Pos.fG];omega
 ·obtain⟨s,b,_⟩:=a.ob i o hi;rw[M.iC (a.ne_next b)]at c;exact .inr ⟨i,o,A,hi,m,c,rfl⟩
 ·obtain⟨s,b,_⟩:=a.ob i o hi;rw[M.iC (a.ne_next b)]at c;exact .inr ⟨i,o,A,hi,c,rfl⟩
 ·rw[M.iC (λe=>by rw[e]at hi;omega)];exact f
inductive Jmp where
 |ret
 |ex (i:Nat)
def Jmp.code:Jmp->Code
 | .ret=>.ret
 | .ex i=>.exit i
inductive YR where
 |go (h:Hp)
 |stop (j:Jmp) (h:Hp)
 |bad
def wL(L:Loop)(p:Option Jmp):Loop:={L with state:=(match p with|none=>.ready|some _=>.done),pending:=p.map Jmp.code}
structure Rng where
 M:Mp
 h:Hp
 w:World
 kp:Pos
 l:Nat
 L:Loop
structure Goes (B:Rng) (p:Option Jmp) (M:Mp) (h:Hp) (w:World):Prop where
 ext:Ext B.M B.h B.w M h w
 ky:M B.kp=some ⟨B.l,0,0⟩
 hl:B.w.heap.size<B.l
 st:w.heap[B.l]?=some (.loop (wL B.L p))
 mrk:w.heap[B.w.heap.size]?=some (.deferred (some []))
theorem Goes.step{B:Rng}{p:Option Jmp}(g:Goes B p M h w)(a:Rel G M h w)(x:Ext M h w M' h' w'):Goes B p M' h' w':=
 ⟨g.ext.trans x,x.le _ _ g.ky,g.hl,a.kept x g.st rfl,a.kept x g.mrk rfl⟩
def aly(keep:Nat->Bool):List Nat->List V->F->Option F
 | [],x,fr=>(match x with| []=>some fr|_::_=>none)
 |t::ts,x,fr=>(match x with
  | []=>none
  |v::vs=>(match keep t with|true=>aly keep ts vs (fr.set (some v) (Pos.of t))|false=>none))
def alc(keep:Nat->Bool)(ps:List Nat)(Da Db:F->Hp->Out)(fr:F)(args:List V)(h:Hp):YR:=match aly keep ps args fr with
 |none=>.bad
 |some fr=>(match Da fr h with
  | .nor fr h=>(match Db fr h with
   | .nor _ h=>.go h
   | .ret _ h=>.stop .ret h
   | .ex i _ h=>.stop (.ex i) h
   | .bad=>.bad)
  |_=>.bad)
def aLY(Rq:Option Jmp->Hp->Prop):YR->Prop
 | .go h=>Rq none h
 | .stop j h=>Rq (some j) h
 | .bad=>False
theorem asH{keep:Nat->Bool}:∀{ps:List Nat} {args:List V} {cargs:List Value} {fr d:F} {tmps:Array Value},aly keep ps args fr=some d->(∀t∈ps,t<tmps.size)->bV M args cargs->
  Lr keep M fr {tmps:=tmps,defers:= []}->
  cargs.length=ps.length/\Lr keep M d {tmps:=(ps.zip cargs).foldl (λtmps (t,a)=>tmps.setIfInBounds t a) tmps,defers:= []}/\((ps.zip cargs).foldl (λtmps (t,a)=>tmps.setIfInBounds t a) tmps).size=tmps.size
 | [],args,cargs,fr,d,tmps,b,_,j,k=>by
  cases args with
  |nil=>cases b;cases(show cargs= [] from j);exact⟨rfl,k,rfl⟩
  |cons v vs=>cases b
 |t::ts,args,cargs,fr,d,tmps,b,f,j,k=>by
  cases args with
  |nil=>cases b
  |cons v vs=>
   obtain⟨c,cs,rfl,q,n⟩:=bV.cons_inv j;simp only[aly]at b;cases m:keep t with
   |false=>rw[m]at b;cases b
   |true=>
    rw[m]at b;have p:t<tmps.size:=f t (by simp);have l:Lr keep M (fr.set (some v) (Pos.of t)) {tmps:=tmps.setIfInBounds t c,defers:= []}:=by
     intro u x i;by_cases g:u=t
     ·subst g;rw[T.oI]at i;cases i;refine⟨m,?_⟩;simp only[h!];rw[Array.getElem?_setIfInBounds_self_of_lt p];exact q
     ·rw[T.sU _ (λe=>g (Pos.aem e))]at i;obtain⟨a1,a2⟩:=k u x i;refine⟨a1,?_⟩;simp only[h!]at a2⊢;rw[Array.getElem?_setIfInBounds_ne (Ne.symm g)];exact a2
    obtain⟨b1,b2,o⟩:=asH (tmps:=tmps.setIfInBounds t c) b (λu g=>by rw[u!];exact f u (by simp[g])) n l;refine⟨by simp[b1],by simpa using b2,?_⟩;have:(((t::ts).zip (c::cs)).foldl (λtmps (t,a)=>tmps.setIfInBounds t a) tmps)=((ts.zip cs).foldl (λtmps (t,a)=>tmps.setIfInBounds t a) (tmps.setIfInBounds t c)):=by simp
    rw[this,o,u!]
theorem aE6{B:Rng}{fr0:F}{Da Db:F->Hp->Out}(hA:eF P keep G N B.L.assign Da)(hB:eF P keep G N B.L.body Db)(hf:Lr keep B.M fr0 {tmps:=B.L.tmps,defers:= []})(hN:B.L.tmps.size=N)
  (W:∀t∈B.L.params.toList,t<N) {args:List V} {cargs:List Value} (hr:Rel G M h w) (ha:bV M args cargs) (g:Goes B none M h w) {n:Nat} {R:Ending->World->Prop}
  (c:aLY (λp h'=>∀M' w',M.le M'->Rel G M' h' w'->Goes B p M' h' w'->R (.returned (.bool p.isNone)) w') (alc keep B.L.params.toList Da Db fr0 args h)):
  cargs.toArray.size=B.L.params.size/\RoundIn (jr none) n P B.l B.L.fn ((B.L.params.zip cargs.toArray).foldl (λtmps (t,a)=>tmps.setIfInBounds t a) B.L.tmps) B.L.assign B.L.body w R:=by
 unfold alc at c;cases e1:aly keep B.L.params.toList args fr0 with
 |none=>rw[e1]at c;exact c.elim
 |some v=>
  rw[e1]at c;simp only[]at c;obtain⟨s1,s2,s3⟩:=asH (tmps:=B.L.tmps) e1 (λt ht=>by rw[hN];exact W t ht) ha (hf.mono g.ext.le);have hz:(B.L.params.zip cargs.toArray).foldl (λtmps (t,a)=>tmps.setIfInBounds t a) B.L.tmps=(B.L.params.toList.zip cargs).foldl (λtmps (t,a)=>tmps.setIfInBounds t a) B.L.tmps:=by
   rw[<-Array.foldl_toList];simp
  refine⟨by simpa using s1,?_⟩;rw[hz];refine roundIn_of_wpIn trivial ?_;have Q:At keep G N [] M v h {tmps:=(B.L.params.toList.zip cargs).foldl (λtmps (t,a)=>tmps.setIfInBounds t a) B.L.tmps,defers:= []} w:=⟨hr,s2,by rw[s3,hN],rfl⟩
  have X:=hA (some B.l) n [] v h M _ w (by intro e2;rw[e2]at c;exact c) Q;refine wpIn_mono X ?_;intro x a1 K q;cases e2:Da v h with
  |bad=>rw[e2]at c;exact c.elim
  |ret k E=>rw[e2]at c;exact c.elim
  |ex i k E=>rw[e2]at c;exact c.elim
  |nor k E=>
   rw[e2]at c q;simp only[]at c;cases x<;>simp only[jE]at q;obtain⟨O,at1,x1⟩:=q;have D:=g.step hr x1;refine⟨_,run_beginRound D.st rfl,?_⟩;have U:B.l<K.heap.size:=(d!.1 D.st).1
   have r2:=at1.rel.putObj D.st rfl (.loop {wL B.L none with state:=.busy});have u:(K.putObj B.l (.loop {wL B.L none with state:=.busy})).heap[B.l]?=some (.loop {wL B.L none with state:=.busy}):=x! U;have s:(K.putObj B.l (.loop {wL B.L none with state:=.busy})).heap[B.w.heap.size]?=some (.deferred (some [])):=by
    rw[c! (by have:=g.hl;omega)];exact D.mrk
   have J:=D.ext.putObj (b:=B.l) (by have:=g.hl;omega) (.loop {wL B.L none with state:=.busy});generalize K.putObj B.l (.loop {wL B.L none with state:=.busy})=Z at r2 u s J;have S:At keep G N [] O k E a1 Z:=⟨r2,at1.fr,at1.size,at1.plain⟩
   have Y:=hB (some B.l) n [] k E O a1 Z (by intro C;rw[C]at c;exact c) S;refine wpIn_mono Y ?_;intro y a3 z r;have fin:∀(p:Option Jmp) d m,Rel G d m z->Ext O E Z d m z->(Instr.endRound B.l (p.map Jmp.code)).run P z=.ok (.bool p.isNone) (z.putObj B.l (.loop (wL B.L p)))/\Rel G d m (z.putObj B.l (.loop (wL B.L p)))/\Goes B p d m (z.putObj B.l (.loop (wL B.L p))):=by
    intro p d m r3 f;have o:=r2.kept f u rfl;have I:B.l<z.heap.size:=(d!.1 o).1;refine⟨?_,r3.putObj o rfl _,?_⟩
    ·rw[run_endRound _ o];cases p<;>rfl
    ·refine⟨(J.trans f).putObj (by have:=g.hl;omega) _,f.le _ _ D.ky,g.hl,x! I,?_⟩;rw[c! (by have:=g.hl;omega)];exact r2.kept f s rfl
   cases C:Db k E with
   |bad=>rw[C]at c;exact c.elim
   |nor H m=>
    rw[C]at c r;cases y<;>simp only[jE]at r;obtain⟨d,j,f⟩:=r;obtain⟨f1,f2,f3⟩:=fin none d m j.rel f;exact⟨_,_,f1,c d _ (Mp.le_trans x1.le f.le) f2 f3⟩
   |ret H m=>
    rw[C]at c r;cases y<;>simp only[jE]at r;obtain⟨d,j,f⟩:=r;obtain⟨f1,f2,f3⟩:=fin (some .ret) d m j.rel f;exact⟨_,_,f1,c d _ (Mp.le_trans x1.le f.le) f2 f3⟩
   |ex i H m=>
    rw[C]at c r;cases y<;>simp only[jE]at r;obtain⟨ej,d,j,f⟩:=r;subst ej;obtain⟨f1,f2,f3⟩:=fin (some (.ex _)) d m j.rel f;exact⟨_,_,f1,c d _ (Mp.le_trans x1.le f.le) f2 f3⟩
end
section
variable{P:Program}{G N:Nat}{M M':Mp}{h h':Hp}{w w':World}{keep:Nat->Bool}{e:FuncId->Option Fun}{B:Rng}
inductive OutI where
 |nor (fr:F) (h:Hp) (p:Option Jmp)
 |ret (fr:F) (h:Hp) (p:Option Jmp)
 |ex (i:Nat) (fr:F) (h:Hp) (p:Option Jmp)
 |bad
abbrev yF:=F->Hp->Option Jmp->OutI
def ZV(o:Out)(p:Option Jmp):OutI:=match o with
 | .nor fr h=>.nor fr h p
 | .ret fr h=>.ret fr h p
 | .ex i fr h=>.ex i fr h p
 | .bad=>.bad
def aai(D:F->Hp->Out):yF:=λfr h p=>ZV (D fr h) p
def aE2(a b:yF):yF:=λfr h p=>match a fr h p with
 | .nor fr h p=>b fr h p
 | .ret fr h p=>.ret fr h p
 | .ex i fr h p=>.ex i fr h p
 | .bad=>.bad
def aFM(c:Operand)(a b:yF):yF:=λfr h p=>match c with
 | .tmp t=>(match fr.get (Pos.of t) with
  |some v=>(match v with| .bool q=>(match q with|true=>a fr h p|false=>b fr h p)|_=>.bad)
  |none=>.bad)
 |_=>.bad
def aFR(id:Nat)(b:yF):yF:=λfr h p=>match b fr h p with
 | .nor fr h p=>.nor fr h p
 | .ret fr h p=>.ret fr h p
 | .ex i fr h p=>(match b! i id with|true=>.nor fr h p|false=>.ex i fr h p)
 | .bad=>.bad
def agV(b:yF)(n:Nat):yF:=
 Nat.rec (motive:=λ_=>yF) (λ_ _ _=>.bad) (λ_ a fr h p=>match b fr h p with
  | .nor fr h p=>a fr h p
  | .ret fr h p=>.ret fr h p
  | .ex i fr h p=>.ex i fr h p
  | .bad=>.bad) n
def ayi(o:Oper):Bool:=match o.op with
 | .call c=>(match c.callee with
  | .value f=>(match f with| .tmp _=>true|_=>false)
  |_=>false)
 |_=>false
def yIdx:List Oper->Option Nat
 | []=>none
 |o::l=>(match ayi o with
  |true=>some 0
  |false=>(match yIdx l with|some j=>some (j+1)|none=>none))
def atx(l:List Oper):Bool:=l.all λo=>match o.guard with|none=>true|some _=>false
def aAc(o:Oper)(fr:F)(k:Nat):Option (List V):=match o.op with
 | .call c=>(match c.callee with
  | .value f=>(match agO fr (f::c.args.toList) with
   |some vs=>(match vs with
    |g::args=>(match g with
     | .func fn x y=>(match x,y with
      | .nil,.nil=>(match fn with
       | .yield a=>(match b! k a with|true=>some args|false=>none)
       |_=>none)
      |_,_=>none)
     |_=>none)
    | []=>none)
   |none=>none)
  |_=>none)
 |_=>none
def aE7(P:Program)(keep:Nat->Bool)(e:FuncId->Option Fun)(Y:List V->Hp->YR)(k:Nat)(ops:Array Oper):yF:=λfr h p=>match p with
 |some _=>.bad
 |none=>(match yIdx ops.toList with
  |none=>.bad
  |some j=>(match ops[j]? with
   |none=>.bad
   |some o=>(match atx ops.toList with
    |false=>.bad
    |true=>(match oV P keep e ops (ops.toList.take j) [] fr h with
     | .nor a c=>(match aAc o a k with
      |none=>.bad
      |some args=>(match Y args c with
       | .go b=>ZV (wW keep o.dst (.bool true) [] a λenv fr=>oV P keep e ops (ops.toList.drop (j+1)) env fr b) none
       | .stop q b=>ZV (wW keep o.dst (.bool false) [] a λenv fr=>oV P keep e ops (ops.toList.drop (j+1)) env fr b) (some q)
       | .bad=>.bad))
     |_=>.bad))))
def yields:Code->Bool
 | .region _ ops _=>ops.toList.any ayi
 | .seq a b=>yields a||yields b
 | .cond _ a b=>yields a||yields b
 | .block _ b=>yields b
 | .loop b=>yields b
 | .scope b=>yields b
 |_=>false
def Gq(P:Program)(G N:Nat)(keep:Nat->Bool)(e:FuncId->Option Fun)(pl:bZ)(lf:Nat)(Y:List V->Hp->YR)(k:Nat):Code->yF
 | .seq a b=>(match yields (.seq a b) with
  |true=>aE2 (Gq P G N keep e pl lf Y k a) (Gq P G N keep e pl lf Y k b)
  |false=>aai (lZ P G N keep e pl lf (.seq a b)))
 | .cond c a b=>(match yields (.cond c a b) with
  |true=>aFM c (Gq P G N keep e pl lf Y k a) (Gq P G N keep e pl lf Y k b)
  |false=>aai (lZ P G N keep e pl lf (.cond c a b)))
 | .block id b=>(match yields (.block id b) with
  |true=>aFR id (Gq P G N keep e pl lf Y k b)
  |false=>aai (lZ P G N keep e pl lf (.block id b)))
 | .loop b=>(match yields (.loop b) with
  |true=>agV (Gq P G N keep e pl lf Y k b) lf
  |false=>aai (lZ P G N keep e pl lf (.loop b)))
 | .region id ops d=>(match yields (.region id ops d) with
  |true=>(match d with|false=>aE7 P keep e Y k ops|true=>λ_ _ _=>.bad)
  |false=>aai (lZ P G N keep e pl lf (.region id ops d)))
 |c=>aai (lZ P G N keep e pl lf c)
structure AtI (keep:Nat->Bool) (G N:Nat) (B:Rng) (p:Option Jmp) (M:Mp) (fr:F) (h:Hp) (a:Act) (w:World):Prop where
 at_:At keep G N [] M fr h a w
 goes:Goes B p M h w
def qR(keep:Nat->Bool)(G N:Nat)(B:Rng):OutI->Exit->Act->World->Prop
 | .nor fr h p,.normal,a,w=>∃M,AtI keep G N B p M fr h a w
 | .ret fr h p,.ret,a,w=>∃M,AtI keep G N B p M fr h a w
 | .ex i fr h p,.exit j,a,w=>j=i/\∃M,AtI keep G N B p M fr h a w
 |_,_,_,_=>False
def kW(P:Program)(keep:Nat->Bool)(G N:Nat)(B:Rng)(c:Code)(I:yF):Prop:=
 ∀n p fr h M a w,I fr h p≠ .bad->AtI keep G N B p M fr h a w->c.wpIn (jr none) n P (qR keep G N B (I fr h p)) a w
def YOk(P:Program)(G:Nat)(B:Rng)(Y:List V->Hp->YR):Prop:=
 ∀(args:List V) (cargs:List Value) (h:Hp) (M:Mp) (w:World) (n:Nat) (R:Ending->World->Prop),Rel G M h w->bV M args cargs->Goes B none M h w->
  aLY (λp h'=>∀M' w',M.le M'->Rel G M' h' w'->Goes B p M' h' w'->R (.returned (.bool p.isNone)) w') (Y args h)->
  cargs.toArray.size=B.L.params.size/\RoundIn (jr none) n P B.l B.L.fn ((B.L.params.zip cargs.toArray).foldl (λtmps (t,a)=>tmps.setIfInBounds t a) B.L.tmps) B.L.assign B.L.body w R
theorem as4{p:Option Jmp}{Df:Unit}{M:Mp}{h:Hp}{w:World}(c:Rel G M h w)(g:Goes B p M h w){o:Out}:∀x a' w',jE keep G N [] M h w o x a' w'->qR keep G N B (ZV o p) x a' w':=by
 intro x a' w' q;cases o<;>cases x<;>simp only[jE]at q
 ·obtain⟨M',a,b⟩:=q;exact⟨M',a,g.step c b⟩
 ·obtain⟨M',a,b⟩:=q;exact⟨M',a,g.step c b⟩
 ·obtain⟨e1,M',a,b⟩:=q;exact⟨e1,M',a,g.step c b⟩
theorem as5{o:Out}{p:Option Jmp}(a:ZV o p≠ .bad):o≠ .bad:=λe=>by rw[e]at a;exact a rfl
theorem kW.lift{c:Code}{D:F->Hp->Out}(d:eF P keep G N c D):kW P keep G N B c (aai D):=λn p fr h M a w b at_=>
 wpIn_mono (d none n [] fr h M a w (as5 b) at_.at_) (as4 (Df:=()) at_.at_.rel at_.goes)
theorem kW.seq{c d:Code}{I J:yF}(k:kW P keep G N B c I)(hd:kW P keep G N B d J):kW P keep G N B (.seq c d) (aE2 I J):=by
 intro n p fr h M a w b at_;refine wpIn_seq ?_;unfold aE2 at b⊢;cases e1:I fr h p with
 |bad=>rw[e1]at b;exact absurd rfl b
 |nor f j l=>
  rw[e1]at b;refine wpIn_mono (k n p fr h M a w (by rw[e1];simp) at_) ?_;intro x a' w' q;rw[e1]at q;cases x<;>simp only[qR]at q;obtain⟨M',g⟩:=q;exact hd n l f j M' a' w' b g
 |ret f j l=>
  refine wpIn_mono (k n p fr h M a w (by rw[e1];simp) at_) ?_;intro x a' w' q;rw[e1]at q;cases x<;>simp only[qR]at q;exact q
 |ex i f j l=>
  refine wpIn_mono (k n p fr h M a w (by rw[e1];simp) at_) ?_;intro x a' w' q;rw[e1]at q;cases x<;>simp only[qR]at q;exact q
theorem kW.cond{x:Operand}{c d:Code}{I J:yF}(j:kW P keep G N B c I)(hd:kW P keep G N B d J):kW P keep G N B (.cond x c d) (aFM x I J):=by
 intro n p fr h M a w b at_;cases x with
 |tmp t=>
  simp only[aFM]at b⊢;cases i:fr.get (Pos.of t) with
  |none=>rw[i]at b;exact absurd rfl b
  |some v=>
   rw[i]at b;cases v<;>try exact absurd rfl b
   rename_i q;have hb:=(at_.at_.fr t _ i).2.bool;cases q
   ·exact wpIn_cond_false (show a.eval (.tmp t)=.bool false from hb) (hd n p fr h M a w b at_)
   ·exact wpIn_cond_true (show a.eval (.tmp t)=.bool true from hb) (j n p fr h M a w b at_)
 |const c=>exact absurd rfl b
 |global g=>exact absurd rfl b
 |func f=>exact absurd rfl b
theorem kW.block{id:Nat}{c:Code}{I:yF}(f:kW P keep G N B c I):kW P keep G N B (.block id c) (aFR id I):=by
 intro n p fr h M a w b at_;refine wpIn_block ?_;unfold aFR at b⊢;cases e1:I fr h p with
 |bad=>rw[e1]at b;exact absurd rfl b
 |nor d g j=>
  refine wpIn_mono (f n p fr h M a w (by rw[e1];simp) at_) ?_;intro x a' w' q;rw[e1]at q;cases x<;>simp only[qR]at q;exact q
 |ret d g j=>
  refine wpIn_mono (f n p fr h M a w (by rw[e1];simp) at_) ?_;intro x a' w' q;rw[e1]at q;cases x<;>simp only[qR]at q;exact q
 |ex i d g j=>
  refine wpIn_mono (f n p fr h M a w (by rw[e1];simp) at_) ?_;intro x a' w' q;rw[e1]at q;cases x<;>simp only[qR]at q;obtain⟨rfl,q⟩:=q;simp only[Exit.inBlock];cases hb:b! _ id with
  |true=>rw[if_pos (a! hb)];exact q
  |false=>rw[if_neg (l! hb)];exact⟨rfl,q⟩
theorem aAS(b:yF)(n:Nat)(fr:F)(h:Hp)(p:Option Jmp):agV b (n+1) fr h p=(match b fr h p with
  | .nor fr h p=>agV b n fr h p
  | .ret fr h p=>.ret fr h p
  | .ex i fr h p=>.ex i fr h p
  | .bad=>.bad):=rfl
theorem kW.loop{c:Code}{I:yF}(S:kW P keep G N B c I)(n:Nat):kW P keep G N B (.loop c) (agV I n):=by
 intro L p fr h M a w v at_;generalize E:agV I n fr h p=out at v
 let J:Nat->Act->World->Prop:=λm a' w'=>∃j h' s M',agV I m j h' s=out/\AtI keep G N B s M' j h' a' w'
 intro b k cs U hb z;have key:∀(n:Nat) a' w',J n a' w'->∃e C H,qR keep G N B out e C H/\ArrivesIn (Machine.fenced P (jr none)) P (lone (b.atR a' (.code c:: .inLoop c::k)) cs w') b k cs e C H:=by
  intro n;induction n with
  |zero=>rintro a' w' ⟨j,h',s,M',e,-⟩;exact absurd e.symm v
  |succ n ih=>
   rintro a' w' ⟨j,h',s,M',e,t⟩;rw[aAS]at e;have Z:c.wpIn (jr none) L P (Exit.then (λa w=>J n a w) (qR keep G N B out)) a' w':=by
    cases e1:I j h' s with
    |bad=>rw[e1]at e;exact absurd e.symm v
    |nor u Q W=>
     rw[e1]at e;refine wpIn_mono (S L s j h' M' a' w' (by rw[e1];simp) t) ?_;intro x a2 X q;rw[e1]at q;cases x<;>simp only[qR]at q;obtain⟨Y,O⟩:=q;exact⟨u,Q,W,Y,e,O⟩
    |ret u Q W=>
     rw[e1]at e;refine wpIn_mono (S L s j h' M' a' w' (by rw[e1];simp) t) ?_;intro x a2 X q;rw[e1]at q;cases x<;>simp only[qR]at q;subst e;exact q
    |ex i u Q W=>
     rw[e1]at e;refine wpIn_mono (S L s j h' M' a' w' (by rw[e1];simp) t) ?_;intro x a2 X q;rw[e1]at q;cases x<;>simp only[qR]at q;subst e;exact q
   obtain⟨x,f,g,r,d⟩:=Z b (.inLoop c::k) cs U hb z;cases x with
   |normal=>
    obtain⟨x2,D,K,y,o⟩:=ih f g r;exact⟨x2,D,K,y,.of_steps (StepsIn.trans d (.one (fenced_calm hb z rfl) stepR_inLoop)) o⟩
   |exit id=>exact⟨_,f,g,r,.pass (x:=.inLoop c) rfl (λ_ _=>.inl (by simp)) d⟩
   |goto l=>exact⟨_,f,g,r,.pass (x:=.inLoop c) rfl (λ_ _=>.inl (by simp)) d⟩
   |ret=>exact⟨_,f,g,r,.pass (x:=.inLoop c) rfl (λ_ _=>.inl (by simp)) d⟩
   |panic ch=>exact⟨_,f,g,r,.pass (x:=.inLoop c) rfl (λ_ _=>.inl (by simp)) d⟩
   |outgrown=>exact⟨_,f,g,r,.pass (x:=.inLoop c) rfl (λ_ _=>.inl (by simp)) d⟩
 obtain⟨x,a',w',r,d⟩:=key n a w ⟨fr,h,p,M,E,at_⟩;exact⟨x,a',w',r,.of_steps (.one (fenced_calm hb z rfl) stepR_loop) d⟩
theorem aHB{ro:Option Nat}{n:Nat}{Df:List Deferred}(y:∀f F,e f=some F->aG P G f F){ops:Array Oper}{d:F}{h':Hp}{Q:Exit->Act->World->Prop}{u:List Nat}:
  ∀(l:List Nat) (env:Env) (fr:F) (h:Hp) (M:Mp) (a:Act) (w:World),(∀i∈l,∃o,ops[i]?=some o/\o.guard=none/\qA G N o=true)->At keep G N Df M fr h a w->nI M env a->
   oV P keep e ops (l.filterMap (ops[·]?)) env fr h=.nor d h'->
   (∀a' w' M',At keep G N Df M' d h' a' w'->Ext M h w M' h' w'->wpOpsIn (jr ro) n P ops Q u a' w')->wpOpsIn (jr ro) n P ops Q (l++u) a w:=by
 intro l;induction l with
 |nil=>
  intro env fr h M a w _ at_ _ b q;simp only[List.filterMap_nil,oV]at b;cases b;exact q a w M at_ (.refl at_.rel)
 |cons i l H=>
  intro env fr h M a w hl at_ z b q;obtain⟨o,t,g,k⟩:=hl i (by simp);rw[List.cons_append];simp only[wpOpsIn,t];rw[w! t]at b;unfold oV at b;simp only[g]at b;have D:o! o (yielded ops a.tmps)=true:=by simp[o!,g]
  simp only[D,if_true];refine aCs (Q:=λ_ _ _=>False) (λ_ _ h=>h) (λ_ _ _ h=>h.elim) (vJ k) (alG y k (by simp) at_ z b ?_);intro c p x a' w' M' e1 at1 r E;exact H c p x M' a' w' (λj C=>hl j (by simp[C])) at1 r e1 λa2 I v m s=>q a2 I v m (E.trans s)
theorem axJ:∀{l:List Oper} {j:Nat},yIdx l=some j->j<l.length
 | [],j,h=>by cases h
 |o::l,j,h=>by
  simp only[yIdx]at h;split at h
  ·cases h;simp
  ·split at h
   ·rename_i j' a;cases h;have:=axJ a;simp;omega
   ·cases h
theorem Eh(ops:Array Oper):∀(n k:Nat),k+n<=ops.size->(g! k n).filterMap (ops[·]?)=(ops.toList.drop k).take n
 |0,k,_=>by simp
 |n+1,k,b=>by
  rw[K!,w! (i! (by omega)),Eh ops n (k+1) (by omega)];have a:k<ops.toList.length:=by simp;omega
  rw[List.drop_eq_getElem_cons a,List.take_succ_cons];simp
theorem kW.region(hE:∀f F,e f=some F->aG P G f F){Y:List V->Hp->YR}(hY:YOk P G B Y){id:Nat}{ops:Array Oper}(C:∀o∈ops.toList,qA G N o=true):kW P keep G N B (.region id ops false) (aE7 P keep e Y B.kp.nat ops):=by
 intro n p fr h M a w d at_;refine wpIn_region ?_;unfold aE7 at d⊢;cases p with
 |some q=>exact absurd rfl d
 |none=>
 simp only[]at d⊢;cases hj:yIdx ops.toList with
 |none=>rw[hj]at d;exact absurd rfl d
 |some j=>
 have S:j<ops.size:=by simpa using axJ hj
 rw[hj]at d;simp only[]at d⊢;have ho:ops[j]?=some ops[j]:=i! S;rw[ho]at d⊢;simp only[]at d⊢;cases U:atx ops.toList with
 |false=>rw[U]at d;exact absurd rfl d
 |true=>
 rw[U]at d;simp only[]at d⊢;have ac:∀o∈ops.toList,o.guard=none:=λo hm=>by
  have:=q!.1 U o hm;split at this
  ·assumption
  ·cases this
 cases u:oV P keep e ops (ops.toList.take j) [] fr h with
 |bad=>rw[u]at d;exact absurd rfl d
 |ret r h1=>rw[u]at d;exact absurd rfl d
 |ex i r h1=>rw[u]at d;exact absurd rfl d
 |nor r h1=>
 rw[u]at d;simp only[]at d⊢;have z:∀{i:Nat} (hi:i<ops.size),ops[i]∈ops.toList:=λhi=>by simp
 have H:List.range ops.size=g! 0 j++(j::g! (j+1) (ops.size - (j+1))):=by
  have t:g! j (ops.size - j)=j::g! (j+1) (ops.size - (j+1)):=by
   rw[show ops.size - j=(ops.size - (j+1))+1 by omega,K!]
  rw[<-t,List.range_eq_range'];have:=List.range'_append (s:=0) (m:=j) (n:=ops.size - j) (step:=1);simp only[Nat.one_mul,A!]at this;rw[this];congr 1;omega
 rw[H];refine aHB hE (g! 0 j) [] fr h M a w (λi hi=>?_) at_.at_ (nI.nil M a) (by rw[Eh ops j 0 (by omega)];exact u) ?_
 ·have Q:i<ops.size:=by
   have:=L!.1 hi;obtain⟨q,hq,rfl⟩:=this;omega
  exact⟨ops[i],i! Q,ac _ (z Q),C _ (z Q)⟩
 intro a1 w1 M1 at1 ap;have g1:=at_.goes.step at_.at_.rel ap;simp only[wpOpsIn,ho];have hw:o! ops[j] (yielded ops a1.tmps)=true:=by simp[o!,ac _ (z S)]
 simp only[hw,if_true];have J:=C _ (z S);have ad:=vJ J;cases k:aAc ops[j] r B.kp.nat with
 |none=>rw[k]at d;exact absurd rfl d
 |some args=>
 rw[k]at d;simp only[]at d⊢;have K:∃cargs,bV M1 args cargs/\∀{w'},(Instr.yield B.l cargs.toArray).run P w1=w'->(execOp a1.eval ops[j]).run P w1=w':=by
  unfold aAc at k;split at k
  ·rename_i c al;split at k
   ·rename_i f ab;split at k
    ·rename_i vs am;split at k
     ·rename_i g ar;split at k
      ·rename_i fn x y;split at k
       ·split at k
        ·rename_i k';split at k
         ·rename_i hk;cases k;have hk:=a! hk;subst hk;obtain⟨cg,cargs,q1,q2,q3⟩:=(ZW at1 am).cons_inv;rw[M!]at q1;cases q1;obtain⟨g0,xs,ys,ak,ao,au,hf⟩:=q2.func;obtain⟨L,hL,rfl⟩:=ak;rw[Pos.MN,g1.ky]at hL;cases hL;cases(show xs= [] from ao);refine⟨_,q3,λ{w'} an=>?_⟩;rw[<-an];have e2:(c.args.toList.map a1.eval).toArray=c.args.map a1.eval:=by apply Array.ext';simp
          rw[e2];simp only[execOp,al,resolve,ab,hf,Deferred.ofValue];simp[invoke]
         ·cases k
        ·cases k
       ·cases k
      ·cases k
     ·cases k
    ·cases k
   ·cases k
  ·cases k
 obtain⟨cargs,E,O⟩:=K;refine⟨λ_ _=>trivial,?_⟩;rw[Oper.semAt_eq _ _ _ ad];have after:∀(b:Bool) (p:Option Jmp) (t:Hp),ZV (wW keep ops[j].dst (.bool b) [] r λenv fr=>oV P keep e ops (ops.toList.drop (j+1)) env fr t) p≠ .bad->
   ∀M' w',M1.le M'->Rel G M' t w'->Goes B p M' t w'->wpOpsIn (jr none) n P ops (qR keep G N B (ZV (wW keep ops[j].dst (.bool b) [] r λenv fr=>oV P keep e ops (ops.toList.drop (j+1)) env fr t) p)) (g! (j+1) (ops.size - (j+1))) (a1.put ops[j].dst (.bool b)) w':=by
  intro b p t I M2 w2 D af g2;have ag:At keep G N [] M2 r t a1 w2:=⟨af,at1.fr.mono D,at1.size,at1.plain⟩
  generalize ae:(wW keep ops[j].dst (.bool b) [] r λenv fr=>oV P keep e ops (ops.toList.drop (j+1)) env fr t)=out at I;obtain⟨Z,ai,e1,ah,aj⟩:=ag5 ag (nI.nil M2 a1) (Gh J) (yu M2 b) ae;refine aAC (as4 (Df:=()) af g2) jE.arZ (λo ho=>vJ (C o ho)) _ _ _ (axX hE C (as5 I) _ Z ai t M2 _ w2 (λi hi=>?_) ah aj ?_)
  ·obtain⟨q,hq,rfl⟩:=L!.1 hi;omega
  ·rw[Eh ops _ (j+1) (by omega),List.take_of_length_le (by simp)];exact e1
 have aa:=hY args cargs h1 M1 w1 (n - 1) (fun
  | .returned v,aq=>wpOpsIn (jr none) n P ops (qR keep G N B (match Y args h1 with
   | .go t=>ZV (wW keep ops[j].dst (.bool true) [] r λenv fr=>oV P keep e ops (ops.toList.drop (j+1)) env fr t) none
   | .stop q t=>ZV (wW keep ops[j].dst (.bool false) [] r λenv fr=>oV P keep e ops (ops.toList.drop (j+1)) env fr t) (some q)
   | .bad=>.bad)) (g! (j+1) (ops.size - (j+1))) (a1.put ops[j].dst v) aq
  | .panicked _,_=>False
  | .outgrown,_=>False) at1.rel E g1 (by
   cases hy:Y args h1 with
   |bad=>rw[hy]at d;exact absurd rfl d
   |go t=>
    rw[hy]at d;exact λM' w' D W g'=>after true none t d M' w' D W g'
   |stop q t=>
    rw[hy]at d;exact λM' w' D W g'=>after false (some q) t d M' w' D W g')
 rw[O (run_yield g1.st aa.1)];rw[Oper.uponIn_round];refine⟨λhx=>by simp[jr,Fence.wide]at hx,?_⟩;refine RoundIn.mono aa.2 ?_;intro x w2 X;cases x with
 |returned v=>exact X
 |panicked ch=>exact X.elim
 |outgrown=>exact X.elim
end
section
variable{P:Program}{G N:Nat}{M M':Mp}{h h':Hp}{w w':World}{keep:Nat->Bool}{e:FuncId->Option Fun}{r:V}{B:Rng}
def oM(G N:Nat):Code->Bool
 | .seq a b=>(match yields (.seq a b) with|true=>oM G N a&&oM G N b|false=>codeOk G N (.seq a b))
 | .cond c a b=>(match yields (.cond c a b) with|true=>oM G N a&&oM G N b|false=>codeOk G N (.cond c a b))
 | .block id b=>(match yields (.block id b) with|true=>oM G N b|false=>codeOk G N (.block id b))
 | .loop b=>(match yields (.loop b) with|true=>oM G N b|false=>codeOk G N (.loop b))
 |c=>codeOk G N c
theorem kW.bad{c:Code}:kW P keep G N B c (λ_ _ _=>.bad):=λ_ _ _ _ _ _ _ a _=>absurd rfl a
theorem Ky(j:P.follows .mixedOrders=true)(i:∀f F,e f=some F->aG P G f F){Y:List V->Hp->YR}(k:YOk P G B Y)(pl:bZ)(lf:Nat):(c:Code)->oM G N c=true->kW P keep G N B c (Gq P G N keep e pl lf Y B.kp.nat c)
 | .seq a b,g=>by
  unfold oM at g;unfold Gq;split at g
  ·rename_i hd
   (try rw[hd])
   simp only[e!]at g;exact .seq (Ky j i k pl lf a g.1) (Ky j i k pl lf b g.2)
  ·rename_i hd
   (try rw[hd])
   exact .lift (dZ j i pl lf _ g)
 | .cond c a b,g=>by
  unfold oM at g;unfold Gq;split at g
  ·rename_i hd
   (try rw[hd])
   simp only[e!]at g;exact .cond (Ky j i k pl lf a g.1) (Ky j i k pl lf b g.2)
  ·rename_i hd
   (try rw[hd])
   exact .lift (dZ j i pl lf _ g)
 | .block id b,g=>by
  unfold oM at g;unfold Gq;split at g
  ·rename_i hd
   (try rw[hd])
   exact .block (Ky j i k pl lf b g)
  ·rename_i hd
   (try rw[hd])
   exact .lift (dZ j i pl lf _ g)
 | .loop b,g=>by
  unfold oM at g;unfold Gq;split at g
  ·rename_i hd
   (try rw[hd])
   exact .loop (Ky j i k pl lf b g) lf
  ·rename_i hd
   (try rw[hd])
   exact .lift (dZ j i pl lf _ g)
 | .region id ops d,g=>by
  unfold Gq;split
  ·cases d with
   |true=>exact .bad
   |false=>
    unfold oM at g;simp only[codeOk,q!]at g;exact .region i k g
  ·exact .lift (dZ j i pl lf _ (by unfold oM at g;exact g))
 | .skip,g=>.lift (dZ j i pl lf _ g)
 | .label _,g=>.lift (dZ j i pl lf _ g)
 | .exit _,g=>.lift (dZ j i pl lf _ g)
 | .ret,g=>.lift (dZ j i pl lf _ g)
 | .scope _,g=>.lift (dZ j i pl lf _ g)
 | .goto _,g=>.lift (dZ j i pl lf _ g)
 | .rangeFunc ..,g=>.lift (dZ j i pl lf _ g)
 | .refuse _,g=>.lift (dZ j i pl lf _ g)
inductive IR where
 |ok (h:Hp) (p:Option Jmp)
 |bad
abbrev amy:=(List V->Hp->YR)->Nat->List V->Hp->IR
def aA0(P:Program)(G:Nat)(keep:Nat->Bool)(e:FuncId->Option Fun)(pl:bZ)(lf:Nat)(fn:Func):amy:=λY k args h=>match fn.body with
 |none=>.bad
 |some c=>(match Q! args.length fn.ntmps,b! fn.results.size 0 with
  |true,true=>(match Gq P G fn.ntmps keep e pl lf Y k c (DT keep 0 args .nil) h none with
   | .nor _ h' p=>.ok h' p
   | .ret _ h' p=>.ok h' p
   |_=>.bad)
  |_,_=>.bad)
def GH(P:Program)(G:Nat)(f:FuncId)(I:amy):Prop:=
 (∀args w,(callFunc f args).run P w=.ok (.enter f args) w)/\
 ∀(B:Rng) (Y:List V->Hp->YR) (args:List V) (cargs:List Value) (h h':Hp) (p:Option Jmp) (M:Mp) (w:World) (n:Nat),YOk P G B Y->I Y B.kp.nat args h=.ok h' p->Rel G M h w->bV M args cargs->Goes B none M h w->
  CallsIn (jr none) n P f cargs.toArray w λe w'=>∃c,e=.returned c/\∃M',Rel G M' h' w'/\Goes B p M' h' w'
theorem aFs(E:P.follows .mixedOrders=true){f:FuncId}{fn:Func}{pl:bZ}{lf:Nat}(z:∀f F,e f=some F->aG P G f F)(u:P.funcs[f]?=some fn)(i:((match fn.body with|some c=>oM G fn.ntmps c|none=>false)&&!(fn.name== "runtime.NumGoroutine"))=true):GH P G f (aA0 P G keep e pl lf fn):=by
 simp only[e!,J!]at i;cases hb:fn.body with
 |none=>rw[hb]at i;cases i.1
 |some c=>
  rw[hb]at i;refine⟨aee u i.2 hb,?_⟩;intro B Y args cargs h h' p M w n C d H D g;unfold aA0 at d;rw[hb]at d;simp only[]at d;split at d
  ·rename_i t b;have b:fn.results= #[]:=Array.size_eq_zero_iff.1 (a! b);have s:=ayk (keep:=keep) (fn:=fn) H D (C! t);have v:∀o,Gq P G fn.ntmps keep e pl lf Y B.kp.nat c (DT keep 0 args .nil) h none=o->o≠ .bad->c.wpIn (jr none) n P (qR keep G fn.ntmps B o) {tmps:=cargs.toArray++k! (fn.ntmps - cargs.toArray.size) undef,defers:= []} w:=by
    intro o j k;rw[<-j]at k⊢;exact Ky E z C pl lf c i.1 n none _ h M _ w k ⟨s,g⟩
   have l:∀(tmps:Array Value) (w':World),(results fn tmps).run P w'=.ok (.tuple #[]) w':=λtmps w'=>by
    rw[ZQ,b];simp
   refine callsIn_of_wp u hb trivial ?_ rfl;split at d
   ·rename_i m y I j;cases d;refine wpIn_mono (v _ j (by simp)) ?_;intro x a' w' q;cases x<;>simp only[qR]at q;obtain⟨M',a,g'⟩:=q;exact⟨a.plain,_,l _ _,_,rfl,M',a.rel,g'⟩
   ·rename_i m y I j;cases d;refine wpIn_mono (v _ j (by simp)) ?_;intro x a' w' q;cases x<;>simp only[qR]at q;obtain⟨M',a,g'⟩:=q;exact⟨a.plain,_,l _ _,_,rfl,M',a.rel,g'⟩
   ·cases d
  ·cases d
def kU(b:Nat):List Deferred->World->Prop
 | [],_=>True
 |d::ds,w=>∃r,d.target=.collected r/\b<=r/\w.heap[r]?=some (.deferred (some []))/\(∀a∈ds,a.target≠ .collected r)/\kU b ds w
theorem kU.step{b:Nat}(a:Rel G M h w)(x:Ext M h w M' h' w'):∀{Df:List Deferred},kU b Df w->kU b Df w'
 | [],_=>trivial
 |_::_,⟨r,c,d,f,g,i⟩=>⟨r,c,d,a.kept x f rfl,g,kU.step a x i⟩
theorem kU.put{b r:Nat}{o':Obj}:∀{Df:List Deferred},(∀a∈Df,a.target≠ .collected r)->kU b Df w->kU b Df (w.putObj r o')
 | [],_,_=>trivial
 |d::ds,f,⟨l,c,g,i,j,k⟩=>⟨l,c,g,by rw[c! (λe=>f d (by simp) (by rw[c,e]))];exact i,j,kU.put (λa hd=>f a (by simp[hd])) k⟩
theorem kU.lt{b:Nat}:∀{Df:List Deferred},kU b Df w->∀d∈Df,∀r,d.target=.collected r->r<w.heap.size
 |d::ds,⟨r,c,_,f,_,g⟩,a,hd,i,e=>by
  rcases List.mem_cons.1 hd with rfl|hd
  ·rw[c]at e;cases e;exact(d!.1 f).1
  ·exact kU.lt g a hd i e
def yO(keep:Nat->Bool)(G N b:Nat)(M:Mp)(h:Hp)(w:World):Out->Exit->Act->World->Prop
 | .nor fr h',.normal,a,w'=>∃M' Df,kU b Df w'/\At keep G N Df M' fr h' a w'/\Ext M h w M' h' w'
 | .ret fr h',.ret,a,w'=>∃M' Df,kU b Df w'/\At keep G N Df M' fr h' a w'/\Ext M h w M' h' w'
 | .ex i fr h',.exit j,a,w'=>j=i/\∃M' Df,kU b Df w'/\At keep G N Df M' fr h' a w'/\Ext M h w M' h' w'
 |_,_,_,_=>False
theorem yO.trans{b:Nat}{M':Mp}{w':World}(x:Ext M h w M' h' w'){o:Out}{e:Exit}{a:Act}{v:World}(q:yO keep G N b M' h' w' o e a v):yO keep G N b M h w o e a v:=by
 cases o<;>cases e<;>simp only[yO]at q⊢
 ·obtain⟨c,Df,m,p,y⟩:=q;exact⟨c,Df,m,p,x.trans y⟩
 ·obtain⟨c,Df,m,p,y⟩:=q;exact⟨c,Df,m,p,x.trans y⟩
 ·obtain⟨rfl,c,Df,m,p,y⟩:=q;exact⟨rfl,c,Df,m,p,x.trans y⟩
def pF(P:Program)(keep:Nat->Bool)(G N:Nat)(c:Code)(D:F->Hp->Out):Prop:=
 ∀n b Df fr h M a w,D fr h≠ .bad->b<=w.heap.size->kU b Df w->At keep G N Df M fr h a w->c.wpIn (jr none) n P (yO keep G N b M h w (D fr h)) a w
theorem pF.lift{c:Code}{D:F->Hp->Out}(g:eF P keep G N c D):pF P keep G N c D:=by
 intro n b Df fr h M a w f hb d at_;refine wpIn_mono (g none n Df fr h M a w f at_) ?_;intro x a' w' q;generalize D fr h=o at q;cases o<;>cases x<;>simp only[jE]at q
 ·obtain⟨M',p,y⟩:=q;exact⟨M',Df,d.step at_.rel y,p,y⟩
 ·obtain⟨M',p,y⟩:=q;exact⟨M',Df,d.step at_.rel y,p,y⟩
 ·obtain⟨e1,M',p,y⟩:=q;exact⟨e1,M',Df,d.step at_.rel y,p,y⟩
theorem pF.seq{c d:Code}{D E:F->Hp->Out}(m:pF P keep G N c D)(hd:pF P keep G N d E):pF P keep G N (.seq c d) (aB D E):=by
 intro n b Df fr h M a w f hb o at_;refine wpIn_seq ?_;unfold aB at f⊢;cases e1:D fr h with
 |bad=>rw[e1]at f;exact absurd rfl f
 |nor g l=>
  rw[e1]at f;refine wpIn_mono (m n b Df fr h M a w (by rw[e1];simp) hb o at_) ?_;intro x a' w' q;rw[e1]at q;cases x<;>simp only[yO]at q;obtain⟨M',j,p,k,s⟩:=q;exact wpIn_mono (hd n b j g l M' a' w' f (Nat.le_trans hb s.size) p k) λx a w q=>yO.trans s q
 |ret g l=>
  refine wpIn_mono (m n b Df fr h M a w (by rw[e1];simp) hb o at_) ?_;intro x a' w' q;rw[e1]at q;cases x<;>simp only[yO]at q;exact q
 |ex i g l=>
  refine wpIn_mono (m n b Df fr h M a w (by rw[e1];simp) hb o at_) ?_;intro x a' w' q;rw[e1]at q;cases x<;>simp only[yO]at q;exact q
theorem pF.cond{x:Operand}{c d:Code}{D E:F->Hp->Out}(l:∀g,x=.global g->g<G)(k:pF P keep G N c D)(hd:pF P keep G N d E):pF P keep G N (.cond x c d) (aoT x D E):=by
 intro n b Df fr h M a w f hb i at_;obtain⟨v,env,e1,m,-⟩:=agP f at_ l (nI.nil M a) (rfl:aoT x D E fr h=_);rw[<-e1]at f⊢;cases v<;>simp only[ne_eq,not_true_eq_false]at f⊢;rename_i t;have j:=m.bool;cases t
 ·exact wpIn_cond_false j (hd n b Df fr h M a w f hb i at_)
 ·exact wpIn_cond_true j (k n b Df fr h M a w f hb i at_)
theorem pF.block{id:Nat}{c:Code}{D:F->Hp->Out}(g:pF P keep G N c D):pF P keep G N (.block id c) (bG id D):=by
 intro n b Df fr h M a w d hb j at_;refine wpIn_block ?_;unfold bG at d⊢;cases e1:D fr h with
 |bad=>rw[e1]at d;exact absurd rfl d
 |nor f k=>
  refine wpIn_mono (g n b Df fr h M a w (by rw[e1];simp) hb j at_) ?_;intro x a' w' q;rw[e1]at q;cases x<;>simp only[yO]at q;exact q
 |ret f k=>
  refine wpIn_mono (g n b Df fr h M a w (by rw[e1];simp) hb j at_) ?_;intro x a' w' q;rw[e1]at q;cases x<;>simp only[yO]at q;exact q
 |ex i f k=>
  refine wpIn_mono (g n b Df fr h M a w (by rw[e1];simp) hb j at_) ?_;intro x a' w' q;rw[e1]at q;cases x<;>simp only[yO]at q;obtain⟨rfl,q⟩:=q;simp only[Exit.inBlock];cases hb:b! _ id with
  |true=>rw[if_pos (a! hb)];exact q
  |false=>rw[if_neg (l! hb)];exact⟨rfl,q⟩
abbrev LJ:=FuncId->Option amy
def aAs(c:LJ)(keep:Nat->Bool)(g:Operand)(ps:List Nat)(Da Db:F->Hp->Out)(fr:F)(h:Hp):Out:=
 ZX g [] fr λv _=>match v with
 | .func fn a b=>(match fn with
  | .func f=>(match c f with
   |some I=>(match I (alc keep ps Da Db fr) h.next.nat (a.list++(.func (.yield h.next.nat) .nil .nil::b.list)) (aH 1 h) with
    | .ok h' p=>(match p with
     |none=>.nor fr h'
     |some j=>(match j with| .ret=>.ret fr h'| .ex i=>.ex i fr h'))
    | .bad=>.bad)
   |none=>.bad)
  |_=>.bad)
 |_=>.bad
theorem pF.range{Q:LJ}(hI:∀f I,Q f=some I->GH P G f I){g:Operand}{ps:Array Tmp}{ca cb:Code}{Da Db:F->Hp->Out}(hg:∀x,g=.global x->x<G)(aa:∀t∈ps.toList,t<N)(hA:eF P keep G N ca Da)(hB:eF P keep G N cb Db):
  pF P keep G N (.rangeFunc g ps ca cb) (aAs Q keep g ps.toList Da Db):=by
 intro n b Df fr h M a w d hb hm at_;refine wpIn_rangeFunc λfn _=>?_;generalize k:aAs Q keep g ps.toList Da Db fr h=out at d;unfold aAs at k;obtain⟨v,env,e1,hv,-⟩:=agP d at_ hg (nI.nil M a) k;clear k;split at e1
 ·rename_i ah va vb;split at e1
  ·rename_i f;split at e1
   ·rename_i I X;split at e1
    ·rename_i h' p H;obtain⟨s,u⟩:=hI f I X;obtain⟨g0,xs,ys,Y,ad,ae,Z⟩:=hv.func;obtain rfl:g0=.func f:=Y
     let L:Loop:={state:=.ready,pending:=none,fn,tmps:=a.tmps,params:=ps,assign:=ca,body:=cb,defers:=w.heap.size}
     let B:Rng:={M:=M,h:=h,w:=w,kp:=h.next,l:=w.heap.size+1,L:=L}
     let m:=(w.alloc (.deferred (some []))).alloc (.loop L)
     have ac:(w.alloc (.deferred (some []))).heap.size=w.heap.size+1:=World.size_alloc _ _;have r1:Rel G M h m:=(at_.rel.Tf _).Tf _;have x1:Ext M h w M h m:=((Ext.refl at_.rel).Tf _).Tf _;obtain⟨r2,x2⟩:=aC3 r1 ⟨w.heap.size+1,0,0⟩;have y:=x2.le;generalize S:M.add h.next ⟨w.heap.size+1,0,0⟩=K at r2 x2 y;have E:K h.next=some ⟨w.heap.size+1,0,0⟩:=by rw[<-S];exact M.fP _ _
     have g1:Goes B none K (aH 1 h) m:=by
      refine⟨x1.trans x2,E,Nat.lt_succ_self _,?_,?_⟩
      ·show m.heap[w.heap.size+1]?=some (.loop L);rw[<-ac];exact z! _ _
      ·show((w.alloc (.deferred (some []))).heap.push (.loop L))[w.heap.size]?=some (.deferred (some []));rw[p!,if_neg (by omega)];exact z! _ _
     have hY:YOk P G B (alc keep ps.toList Da Db fr):=λargs cargs h2 M2 w2 n2 R ab U g2 af=>
      aE6 (B:=B) (fr0:=fr) hA hB at_.fr at_.size aa ab U g2 af
     have q:bV K (va.list++(.func (.yield h.next.nat) .nil .nil::vb.list)) (xs++(.func (.yield (w.heap.size+1)) #[] #[]::ys)):=by
      refine(ad.mono y).append ⟨_,_,⟨rfl,.yield (w.heap.size+1),[],[],⟨_,by rw[Pos.MN];exact E,rfl⟩,⟨rfl,rfl⟩,rfl,rfl,rfl⟩,ae.mono y,rfl⟩
     refine⟨w.heap.size+1,[{target:=.collected w.heap.size,args:= #[]}],m,{target:=.fn (.func f) ys.toArray,args:=xs.toArray++ #[.func (.yield (w.heap.size+1)) #[] #[]]},m,f,(xs++(.func (.yield (w.heap.size+1)) #[] #[]::ys)).toArray,m,run_enterLoop_outer _ _ _ _ _,?_,λ_ _=>trivial,?_,λhx=>by simp[jr,Fence.wide]at hx,?_⟩
     ·simp only[resolve,rangeCall,Z,Deferred.ofValue];simp[Act.eval]
     ·have:=s ((xs.toArray++ #[.func (.yield (w.heap.size+1)) #[] #[]])++ys.toArray) m;have e2:((xs.toArray++ #[Value.func (.yield (w.heap.size+1)) #[] #[]])++ys.toArray)=(xs++(.func (.yield (w.heap.size+1)) #[] #[]::ys)).toArray:=by simp
      rw[<-e2];exact this
     ·refine CallsIn.mono (u B _ _ _ _ h' p K m _ hY H r2 q g1) ?_;rintro x O ⟨c,rfl,C,r3,D⟩;have ag:w.heap.size+1<O.heap.size:=(d!.1 D.st).1
      refine⟨_,_,run_endLoop D.st (by cases p<;>simp[wL]),?_⟩;have r4:=r3.putObj D.st rfl (.loop {wL B.L p with state:=.exhausted})
      have z:Ext M h w C h' (O.putObj B.l (.loop {wL B.L p with state:=.exhausted})):=D.ext.putObj (b:=B.l) (by show w.heap.size<=w.heap.size+1;omega) _;have J:(O.putObj B.l (.loop {wL B.L p with state:=.exhausted})).heap[w.heap.size]?=some (.deferred (some [])):=by
       rw[c! (by show w.heap.size≠w.heap.size+1;omega)];exact D.mrk
      generalize O.putObj B.l (.loop {wL B.L p with state:=.exhausted})=w4 at r4 z J;have m4:kU b ([{target:=.collected w.heap.size,args:= #[]}]++a.defers) w4:=by
       rw[show a.defers=Df from at_.plain];refine⟨w.heap.size,rfl,hb,J,λd' W e=>?_,hm.step at_.rel z⟩;exact Nat.lt_irrefl _ (hm.lt d' W _ e)
      have o:At keep G N ([{target:=.collected w.heap.size,args:= #[]}]++a.defers) C fr h' {a with defers:= [{target:=.collected w.heap.size,args:= #[]}]++a.defers} w4:=⟨r4,at_.fr.mono z.le,at_.size,rfl⟩
      cases p with
      |none=>
       subst e1;exact⟨C,_,m4,o,z⟩
      |some j=>
       cases j with
       |ret=>
        subst e1;exact wpIn_ret ⟨C,_,m4,o,z⟩
       |ex i=>
        subst e1;exact wpIn_exit ⟨rfl,C,_,m4,o,z⟩
    ·exact absurd e1.symm d
   ·exact absurd e1.symm d
  ·exact absurd e1.symm d
 ·exact absurd e1.symm d
def ranges:Code->Bool
 | .rangeFunc .. =>true
 | .seq a b=>ranges a||ranges b
 | .cond _ a b=>ranges a||ranges b
 | .block _ b=>ranges b
 |_=>false
def OA(P:Program)(G N:Nat)(keep:Nat->Bool)(e:FuncId->Option Fun)(d:LJ)(pl:bZ)(lf:Nat):Code->F->Hp->Out
 | .seq a b=>(match ranges (.seq a b) with
  |true=>aB (OA P G N keep e d pl lf a) (OA P G N keep e d pl lf b)
  |false=>lZ P G N keep e pl lf (.seq a b))
 | .cond c a b=>(match ranges (.cond c a b) with
  |true=>aoT c (OA P G N keep e d pl lf a) (OA P G N keep e d pl lf b)
  |false=>lZ P G N keep e pl lf (.cond c a b))
 | .block id b=>(match ranges (.block id b) with
  |true=>bG id (OA P G N keep e d pl lf b)
  |false=>lZ P G N keep e pl lf (.block id b))
 | .rangeFunc g ps ca cb=>aAs d keep g ps.toList (lZ P G N keep e pl lf ca) (lZ P G N keep e pl lf cb)
 |c=>lZ P G N keep e pl lf c
def al1(G:Nat)(g:Operand):Bool:=match g with| .global x=>B! x G|_=>true
theorem aqr{g:Operand}(h:al1 G g=true):∀x,g=.global x->x<G:=λx e=>by
 subst e;simpa[al1,t!]using h
def vN(G N:Nat):Code->Bool
 | .seq a b=>(match ranges (.seq a b) with|true=>vN G N a&&vN G N b|false=>codeOk G N (.seq a b))
 | .cond c a b=>(match ranges (.cond c a b) with|true=>al1 G c&&(vN G N a&&vN G N b)|false=>codeOk G N (.cond c a b))
 | .block id b=>(match ranges (.block id b) with|true=>vN G N b|false=>codeOk G N (.block id b))
 | .rangeFunc g ps ca cb=>al1 G g&&((ps.toList.all λt=>B! t N)&&(codeOk G N ca&&codeOk G N cb))
 |c=>codeOk G N c
theorem Rn(j:P.follows .mixedOrders=true)(i:∀f F,e f=some F->aG P G f F){l:LJ}(k:∀f I,l f=some I->GH P G f I)(pl:bZ)(lf:Nat):(c:Code)->vN G N c=true->pF P keep G N c (OA P G N keep e l pl lf c)
 | .seq a b,d=>by
  unfold vN at d;unfold OA;split at d
  ·rename_i hd;try rw[hd]
   simp only[e!]at d;exact .seq (Rn j i k pl lf a d.1) (Rn j i k pl lf b d.2)
  ·rename_i hd;try rw[hd]
   exact .lift (dZ j i pl lf _ d)
 | .cond c a b,d=>by
  unfold vN at d;unfold OA;split at d
  ·rename_i hd;try rw[hd]
   simp only[e!]at d;exact .cond (aqr d.1) (Rn j i k pl lf a d.2.1) (Rn j i k pl lf b d.2.2)
  ·rename_i hd;try rw[hd]
   exact .lift (dZ j i pl lf _ d)
 | .block id b,d=>by
  unfold vN at d;unfold OA;split at d
  ·rename_i hd;try rw[hd]
   exact .block (Rn j i k pl lf b d)
  ·rename_i hd;try rw[hd]
   exact .lift (dZ j i pl lf _ d)
 | .rangeFunc g ps ca cb,d=>by
  unfold vN at d;simp only[e!,q!]at d;unfold OA;exact .range k (aqr d.1) (λt m=>by simpa[t!]using d.2.1 t m) (dZ j i pl lf _ d.2.2.1) (dZ j i pl lf _ d.2.2.2)
 | .region _ _ _,d=>.lift (dZ j i pl lf _ d)
 | .loop _,d=>.lift (dZ j i pl lf _ d)
 | .skip,d=>.lift (dZ j i pl lf _ d)
 | .label _,d=>.lift (dZ j i pl lf _ d)
 | .exit _,d=>.lift (dZ j i pl lf _ d)
 | .ret,d=>.lift (dZ j i pl lf _ d)
 | .scope _,d=>.lift (dZ j i pl lf _ d)
 | .goto _,d=>.lift (dZ j i pl lf _ d)
 | .refuse _,d=>.lift (dZ j i pl lf _ d)
theorem atK{fn:Func}{tmps:Array Value}{R:Ending->World->Prop}{n:Nat}{i:Mp}{h0:Hp}{g:World}:∀{Df:List Deferred} {h':Hp} {M':Mp} {w':World},kU g.heap.size Df w'->Rel G M' h' w'->Ext i h0 g M' h' w'->
  (∀a,Rel G M' h' a->Ext i h0 g M' h' a->∃v,(results fn tmps).run P a=.ok v a/\R (.returned v) a)->LeavesInM (jr none) n P fn tmps R Df .returning w'
 | [],h',M',w',_,c,f,b=>b w' c f
 |d::ds,h',M',w',⟨r,k,l,j,m,o⟩,c,f,b=>
  ⟨by simp,.inl ⟨r,_,k,run_takeDeferred j,atK (o.put m) (c.putObj j rfl _) (f.putObj l _) b⟩⟩
def aFz(P:Program)(G:Nat)(keep:Nat->Bool)(e:FuncId->Option Fun)(a:LJ)(pl:bZ)(lf:Nat)(fn:Func):Fun:=match fn.body with
 |some c=>bD P keep fn.ntmps fn.results.toList (OA P G fn.ntmps keep e a pl lf c)
 |none=>λ_ _=>.bad
theorem aH2(E:P.follows .mixedOrders=true){f:FuncId}{fn:Func}{m:LJ}{pl:bZ}{lf:Nat}(C:∀f F,e f=some F->aG P G f F)(D:∀f I,m f=some I->GH P G f I)(z:P.funcs[f]?=some fn)(j:((match fn.body with|some c=>vN G fn.ntmps c|none=>false)&&!(fn.name== "runtime.NumGoroutine"))=true):aG P G f (aFz P G keep e m pl lf fn):=by
 simp only[e!,J!]at j;unfold aFz;cases hb:fn.body with
 |none=>rw[hb]at j;cases j.1
 |some c=>
  rw[hb]at j;have y:=Rn (keep:=keep) E C D pl lf c j.1;intro args h r h' M w cargs b H d;rw[aee z j.2 hb];simp only[Opq];simp only[bD]at b;split at b
  ·rename_i o;have l:=ayk (keep:=keep) (fn:=fn) H d (C! o);refine(ahA (ro:=none) (n:=0)).1 (callsIn_of_wp_marks z hb trivial ?_ rfl);cases e1:OA P G fn.ntmps keep e m pl lf c (DT keep 0 args .nil) h with
   |bad=>rw[e1]at b;cases b
   |ex i k u=>rw[e1]at b;cases b
   |nor k u=>
    rw[e1]at b;refine wpIn_mono (y 0 w.heap.size [] _ _ _ _ _ (by rw[e1];simp) (j! _) trivial l) ?_;intro x a' w' q;rw[e1]at q;cases x<;>simp only[yO]at q;obtain⟨M',Df,m',a,s⟩:=q;show LeavesInM _ _ _ _ _ _ a'.defers _ _;rw[show a'.defers=Df from a.plain];refine atK m' a.rel s λJ r2 t=>?_;obtain⟨rfl,v,p,g⟩:=Qz r2 a.fr b;exact⟨v,p,v,rfl,M',g,r2,t⟩
   |ret k u=>
    rw[e1]at b;refine wpIn_mono (y 0 w.heap.size [] _ _ _ _ _ (by rw[e1];simp) (j! _) trivial l) ?_;intro x a' w' q;rw[e1]at q;cases x<;>simp only[yO]at q;obtain⟨M',Df,m',a,s⟩:=q;show LeavesInM _ _ _ _ _ _ a'.defers _ _;rw[show a'.defers=Df from a.plain];refine atK m' a.rel s λJ r2 t=>?_;obtain⟨rfl,v,p,g⟩:=Qz r2 a.fr b;exact⟨v,p,v,rfl,M',g,r2,t⟩
  ·cases b
end
theorem aCG{P:Program}{G:Nat}:∀f I,(λ_=>none:LJ) f=some I->GH P G f I:=λ_ _ h=>by cases h
theorem atP{P:Program}{G:Nat}{g:FuncId}{I:amy}{e:LJ}(b:GH P G g I)(c:∀f F,e f=some F->GH P G f F):∀f a,(λf=>match b! f g with|true=>some I|false=>e f:LJ) f=some a->GH P G f a:=by
 intro f a h;simp only[]at h;split at h
 ·rename_i hb;cases h;rw[a! hb];exact b
 ·exact c f a h
section
variable{P:Program}{el:TypeId}
def badR(_:Hp):R V:=.bad
def aOX(_:F)(_:Hp):Out:=.bad
theorem dO:lf=10000000000000000000:=rfl
@[congr] theorem aNt{o o':Out}(e:o=o')(k:F->Hp->Out):qQ o k=qQ o' k:=by rw[e]
@[congr] theorem aOp{o o':Option V}(e:o=o')(k:V->Out):gtO o k=gtO o' k:=by rw[e]
@[congr] theorem aN6{o o':R V}(e:o=o')(k:V->Hp->Out):aA o k=aA o' k:=by rw[e]
@[congr] theorem aN8{o o':A}(e:o=o')(k:Ob->(Pos->V)->Out):zU o k=zU o' k:=by rw[e]
@[congr] theorem aOo{o o':V}(e:o=o')(a b:Out):ifB o a b=ifB o' a b:=by rw[e]
theorem XJ(a b:F->Hp->Out)(fr:F)(h:Hp):aB a b fr h=qQ (a fr h) b:=(rfl)
theorem MG(fr:F)(h:Hp)(k:F->Hp->Out):qQ (.nor fr h) k=k fr h:=(rfl)
theorem ap3(fr:F)(h:Hp)(k:F->Hp->Out):qQ (.ret fr h) k=.ret fr h:=(rfl)
theorem asr(i:Nat)(fr:F)(h:Hp)(k:F->Hp->Out):qQ (.ex i fr h) k=.ex i fr h:=(rfl)
theorem akd(v:V)(k:V->Out):gtO (some v) k=k v:=(rfl)
theorem aoW(v:V)(h:Hp)(k:V->Hp->Out):aA (.ok v h) k=k v h:=(rfl)
theorem aqz(ob:Ob)(mk:Pos->V)(k:Ob->(Pos->V)->Out):zU (some (ob,mk)) k=k ob mk:=(rfl)
theorem atT(a b:Out):ifB (.bool true) a b=a:=(rfl)
theorem aqn(a b:Out):ifB (.bool false) a b=b:=(rfl)
theorem aoF{p:Prop} [Decidable p](d:p)(a b:Out):ifB (.bool (decide p)) a b=a:=by rw[decide_eq_true d];rfl
theorem aoG{p:Prop} [Decidable p](d:¬p)(a b:Out):ifB (.bool (decide p)) a b=b:=by rw[decide_eq_false d];rfl
theorem akk(t:Nat)(a b:F->Hp->Out)(fr:F)(h:Hp):aT (.tmp t) a b fr h=gtO (fr.get (Pos.of t)) λv=>ifB v (a fr h) (b fr h):=(rfl)
def Bz(id:Nat)(o:Out):Out:=match o with
 | .ex i fr h=>(match b! i id with|true=>.nor fr h|false=>.ex i fr h)
 |o=>o
theorem ayE(id:Nat)(b:F->Hp->Out)(fr:F)(h:Hp):bG id b fr h=Bz id (b fr h):=by unfold bG Bz;cases b fr h<;>rfl
theorem auv(id:Nat)(fr:F)(h:Hp):Bz id (.nor fr h)=.nor fr h:=(rfl)
theorem auu(id:Nat)(fr:F)(h:Hp):Bz id (.ret fr h)=.ret fr h:=(rfl)
theorem aoX(id i:Nat)(fr:F)(h:Hp):Bz id (.ex i fr h)=if i=id then .nor fr h else .ex i fr h:=by
 unfold Bz;split
 ·rename_i d;cases d;split
  ·rename_i hb;rw[if_pos (a! hb)]
  ·rename_i hb;rw[if_neg (l! hb)]
 ·rename_i e;exact absurd rfl (e _ _ _)
theorem sS(m n:Nat)(x:Option V)(fr:F):(T.set x (Pos.of m) fr).get (Pos.of n)=if n=m then x else fr.get (Pos.of n):=by
 by_cases e:n=m
 ·subst e;rw[if_pos rfl,T.oI]
 ·rw[if_neg e,T.sU _ (λh=>e (Pos.aem h))]
theorem akl{m:Hp->R V}{v:V}{k:Out}{l:List Hp}:chk m v k 0 l=k:=by cases l<;>rfl
theorem ayC{m:Hp->R V}{v:V}{k:Out}{n:Nat}:chk m v k n []=k:=by cases n<;>rfl
def Oc(A B:F->Hp->Prop):Out->Prop
 | .nor fr h=>A fr h
 | .ret fr h=>B fr h
 |_=>False
def LS(id:Nat)(C A B:F->Hp->Prop):Out->Prop
 | .nor fr h=>C fr h
 | .ex i fr h=>i=id/\A fr h
 | .ret fr h=>B fr h
 | .bad=>False
theorem dW{id:Nat}{body:F->Hp->Out}(I:Nat->F->Hp->Prop){A B:F->Hp->Prop}{n:Nat}{fr:F}{h:Hp}(p:n<lf)(j:I n fr h)
  (step:∀m fr h,I m fr h->LS id (λfr h=>∃m',m'<m/\I m' fr h) A B (body fr h)):Oc A B (Bz id (dH body lf fr h)):=by
 have key:∀l n fr h,n<l->I n fr h->Oc A B (Bz id (dH body l fr h)):=by
  intro l;induction l with
  |zero=>intro n fr h p;omega
  |succ l r=>
   intro n fr h p j;have d:=step n fr h j;rw[alR];cases e:body fr h with
   |bad=>rw[e]at d;exact d.elim
   |nor f g=>
    rw[e]at d;obtain⟨m',s,o⟩:=d;exact r m' f g (by omega) o
   |ret f g=>rw[e]at d;exact d
   |ex i f g=>
    rw[e]at d;obtain⟨rfl,q⟩:=d;simp only[aoX,if_true];exact q
 exact key lf n fr h p j
theorem Oc.then{A B:F->Hp->Prop}{o:Out}{k:F->Hp->Out}{Q:Out->Prop}(d:Oc A B o)(e:∀fr h,A fr h->Q (k fr h))(f:∀fr h,B fr h->Q (.ret fr h)):Q (qQ o k):=by
 cases o with
 |nor fr h=>exact e fr h d
 |ret fr h=>exact f fr h d
 |ex i fr h=>exact d.elim
 |bad=>exact d.elim
def aW(P:Program)(d:List ResultVar)(Q:V->Hp->Prop)(o:Out):Prop:=∃r h,aU P d o=.ok r h/\Q r h
theorem aW.ret{d:List ResultVar}{Q:V->Hp->Prop}{fr:F}{h:Hp}{r:V}{h':Hp}(e:cO P d fr h (λvs=>dn vs h)=.ok r h')(f:Q r h'):aW P d Q (.ret fr h):=⟨r,h',e,f⟩
theorem aW.nor{d:List ResultVar}{Q:V->Hp->Prop}{fr:F}{h:Hp}{r:V}{h':Hp}(e:cO P d fr h (λvs=>dn vs h)=.ok r h')(f:Q r h'):aW P d Q (.nor fr h):=⟨r,h',e,f⟩
theorem zL(a b:Int):nJ a b=decide (a=b):=by rw[zK];rfl
theorem EP(a b:Int):ve a b=decide (a<=b):=SI a b
variable{h:Hp}{k:IntKind}{a b:Int}{c:EqC}
theorem wS(k:IntKind):b! (kix k) (kix k)=true:=by cases k<;>rfl
theorem wrap64_in{n:Int}(d: -9223372036854775808<=n)(e:n<9223372036854775808):wrap64 n=n:=by rw[apZ];exact wrap_in d e
theorem SE(d: -9223372036854775808<=a+b)(e:a+b<9223372036854775808):aI .add c (.int .i64 a) (.int .i64 b) h=.ok (.int .i64 (a+b)) h:=by
 show jd .i64 (wrap64 (a+b)) h=_;rw[wrap64_in d e,iq]
theorem Z5(d: -9223372036854775808<=a - b)(e:a - b<9223372036854775808):aI .sub c (.int .i64 a) (.int .i64 b) h=.ok (.int .i64 (a - b)) h:=by
 show jd .i64 (wrap64 (a - b)) h=_;rw[wrap64_in d e,iq]
theorem atm(h0:b≠0):aI .rem c (.int .i64 a) (.int .i64 b) h=.ok (.int .i64 (a.tmod b)) h:=by
 show(match nJ b 0 with|true=>R.bad|false=>jd .i64 (Int.tmod a b) h)=_;rw[zL,decide_eq_false h0,iq]
theorem atv:aI .eql c (.int k a) (.int k b) h=.ok (.bool (decide (a=b))) h:=by
 show(match b! (kix k) (kix k) with|true=>fU (nJ a b) h|false=>.bad)=_;rw[wS,gJ,zL]
theorem ato:aI .neq c (.int k a) (.int k b) h=.ok (.bool (decide (a≠b))) h:=by
 show(match b! (kix k) (kix k) with|true=>fU (not (nJ a b)) h|false=>.bad)=_;rw[wS,gJ,zL];simp
theorem atq:aI .lss c (.int k a) (.int k b) h=.ok (.bool (decide (a<b))) h:=by
 show(match b! (kix k) (kix k) with|true=>fU (not (ve b a)) h|false=>.bad)=_;rw[wS,gJ,EP,show(!decide (b<=a))=decide (a<b) from by rw[r!];simp]
theorem atr:aI .leq c (.int k a) (.int k b) h=.ok (.bool (decide (a<=b))) h:=by
 show(match b! (kix k) (kix k) with|true=>fU (ve a b) h|false=>.bad)=_;rw[wS,gJ,EP]
theorem att:aI .gtr c (.int k a) (.int k b) h=.ok (.bool (decide (a>b))) h:=by
 show(match b! (kix k) (kix k) with|true=>fU (not (ve a b)) h|false=>.bad)=_;rw[wS,gJ,EP,show(!decide (a<=b))=decide (a>b) from by rw[r!];simp]
theorem atu:aI .geq c (.int k a) (.int k b) h=.ok (.bool (decide (a>=b))) h:=by
 show(match b! (kix k) (kix k) with|true=>fU (ve b a) h|false=>.bad)=_;rw[wS,gJ,EP]
theorem ax1(q:Bool):oUn .not (.bool q) h=.ok (.bool (!q)) h:=by show fU (not q) h=_;rw[gJ]
theorem alH(x y:V):arY (.bool true) x y h=.ok x h:=(rfl)
theorem ahK(x y:V):arY (.bool false) x y h=.ok y h:=(rfl)
theorem alL(x:V)(l:V):bQ 0 (.tuple (.cons x l)) h=.ok x h:=(rfl)
theorem alK(x y:V)(l:V):bQ 1 (.tuple (.cons x (.cons y l))) h=.ok y h:=(rfl)
theorem alJ(x y z:V)(l:V):bQ 2 (.tuple (.cons x (.cons y (.cons z l)))) h=.ok z h:=(rfl)
theorem ax3:aAG (.int k a) (.int k b) h=.ok (.int k (min a b)) h:=by
 show(match ve a b with|true=>R.ok (V.int k a) h|false=>.ok (.int k b) h)=_;rw[EP];by_cases hl:a<=b
 ·rw[decide_eq_true hl,Int.min_eq_left hl]
 ·rw[decide_eq_false hl,Int.min_eq_right (by omega)]
theorem ax4:atd (.int k a) (.int k b) h=.ok (.int k (max a b)) h:=by
 show(match ve b a with|true=>R.ok (V.int k a) h|false=>.ok (.int k b) h)=_;rw[EP];by_cases hl:b<=a
 ·rw[decide_eq_true hl,Int.max_eq_left hl]
 ·rw[decide_eq_false hl,Int.max_eq_right (by omega)]
theorem Sz(d: -9223372036854775808<=a)(e:a<9223372036854775808):jV .i64 (.int k a) h=.ok (.int .i64 a) h:=by
 show jd .i64 (wrap64 a) h=_;rw[wrap64_in d e,iq]
theorem XT(z y:V)(j k:IntKind)(a b:Int):bJ el [z,y] 2 [(0,1,.int j a),(1,1,.int k b)] h=.ok (.slice h.next 0 2 (.kn 2)) (h.new (.cells (.rw el true) [.int j a,.int k b])):=(rfl)
theorem ayr(d i:TypeDesc)(a b a' b':Int)(k f:IntKind)(hd:nT d (.int k a)=true)(g:nT i (.int f b)=true):LG [(d,0),(i,1)] [.int k a,.int f b] [.int k a',.int f b']=some (decide (a=a'/\b=b')):=by
 have l:jg (.int k a) (.int k a')=some (decide (a=a')):=by
  show(match b! (kix k) (kix k) with|true=>some (nJ a a')|false=>none)=_;rw[wS,zL]
 have m:jg (.int f b) (.int f b')=some (decide (b=b')):=by
  show(match b! (kix f) (kix f) with|true=>some (nJ b b')|false=>none)=_;rw[wS,zL]
 simp only[LG,nS,List.getElem?_cons_zero,List.getElem?_cons_succ,hd,g,l,m];by_cases e:a=a'<;>by_cases j:b=b'<;>simp[e,j]
theorem SG(a b a' b':Int):agT .eql [((.int .i64),0),((.int .i64),1)] (.agg (.cons (.int .i64 a) (.cons (.int .i64 b) .nil))) (.agg (.cons (.int .i64 a') (.cons (.int .i64 b') .nil))) h=.ok (.bool (decide (a=a'/\b=b'))) h:=by
 show(match LG _ [.int .i64 a,.int .i64 b] [.int .i64 a',.int .i64 b'] with|some q=>(match BinOp.eql with| .eql=>fU q h| .neq=>fU (not q) h|_=>.bad)|none=>.bad)=_;rw[ayr _ _ _ _ _ _ _ _ rfl rfl];exact gJ _ _
theorem aev(a b a' b':Int):agT .neq [((.int .i64),0),((.int .i64),1)] (.agg (.cons (.int .i64 a) (.cons (.int .i64 b) .nil))) (.agg (.cons (.int .i64 a') (.cons (.int .i64 b') .nil))) h=.ok (.bool (decide ¬(a=a'/\b=b'))) h:=by
 show(match LG _ [.int .i64 a,.int .i64 b] [.int .i64 a',.int .i64 b'] with|some q=>(match BinOp.neq with| .eql=>fU q h| .neq=>fU (not q) h|_=>.bad)|none=>.bad)=_;rw[ayr _ _ _ _ _ _ _ _ rfl rfl];refine(gJ _ _).trans ?_;congr 2;by_cases e:a=a'/\b=b'<;>simp[e]
theorem ab2(i:Pos)(o off:Nat):aC off (.ptr i o) h=.ok (.ptr i (o+off)) h:=by show fA (o+off) (λq=>R.ok (V.ptr i q) h)=_;rw[dF]
theorem aCq{i j:Pos}(h:i.nat≠j.nat):i≠j:=λe=>h (by rw[e])
theorem aAA{i j:Pos}(h:i≠j):i.nat≠j.nat:=λe=>h (Pos.yx e)
theorem kL(h:Hp)(i:Pos)(o:Option Ob):(h.put i o).get i=o:=h.dU i o
theorem RZ(h:Hp){i j:Pos}(d:j.nat≠i.nat)(o:Option Ob):(h.put i o).get j=h.get j:=h.cZ (aCq d) o
theorem dX(h:Hp)(o:Ob):(h.new o).get h.next=some o:=h.Gm o
theorem new_ne(h:Hp){j:Pos}(d:j.nat≠h.next.nat)(o:Ob):(h.new o).get j=h.get j:=h.lX (aCq d) o
theorem jI(h:Hp)(i:Pos)(o:Option Ob):(h.put i o).next=h.next:=(rfl)
theorem aFg(h:Hp)(o:Ob):(h.new o).next=h.next.succ:=(rfl)
theorem bI(h:Hp)(o:Ob):(h.new o).next.nat=h.next.nat+1:=Pos.fG _
theorem amb(h:Hp):aH 0 h=h:=(rfl)
theorem xg(n:Nat)(h:Hp):(aH n h).next.nat=h.next.nat+n:=akm n _
structure Fr (b:Nat) (h h':Hp):Prop where
 next:h.next.nat<=h'.next.nat
 get:∀j,j.nat<b->h'.get j=h.get j
structure Sl (b:Nat) (h:Hp) (sz:Nat) (v:V) (n:Nat) (cs:List V):Prop where
 len:cs.length=n*sz
 is:(n=0/\(v=.aO\/v=.emp))\/∃i o c wr all,v=.slice i o n c/\i.nat<b/\(h.get i).bind Ob.row=some (wr,all)/\∀k,k<n*sz->all[o+k]?=cs[k]?
variable{b' n sz bt:Nat}{h':Hp}{v x:V}{cs:List V}
theorem Sl.le{b:Nat}(s:Sl b h sz v n cs)(hb:b<=b'):Sl b' h sz v n cs:=⟨s.len,s.is.imp id λ⟨i,o,c,wr,all,e,hi,r⟩=>⟨i,o,c,wr,all,e,by omega,r⟩⟩
theorem dL{i:Pos}{wr:Wr}{all:List V}(d:(h.get i).bind Ob.row=some (wr,all))(f:Wr->List V->R V):dQ h i f=f wr all:=by
 unfold dQ;cases e:h.get i with
 |none=>rw[e]at d;cases d
 |some o=>
  rw[e]at d;cases o<;>cases d<;>rfl
theorem alI{i:Pos}{wr:Wr}{all:List V}{q:Nat}{x:V}(d:(h.get i).bind Ob.row=some (wr,all))(e:all[q]?=some x):aF (.ptr i q) h=.ok x h:=by
 show dQ h i _=_;rw[dL d,nS,e]
theorem Sl.length{b:Nat}(s:Sl b h sz v n cs):aZ 2 v h'=.ok (.int .i64 n) h':=by
 rcases s.is with⟨rfl,rfl|rfl⟩|⟨i,o,c,wr,all,rfl,_⟩<;>rfl
theorem yw{i:Pos}{o m:Nat}{c:Cap}{j:IntKind}(d:m<n):aX sz (.slice i o n c) (.int j (m:Int)) h=.ok (.ptr i (o+m*sz)) h:=by
 show(match B! m n with|true=>fA (o+m*sz) λq=>R.ok (V.ptr i q) h|false=>.bad)=_;have:B! m n=true:=by simpa[t!]using d
 rw[this,dF]
theorem Sl.at{b:Nat}(s:Sl b h sz v n cs){m:Nat}(e:m<n):∃i q,(∀h',aX sz v (.int .i64 (m:Int)) h'=.ok (.ptr i q) h')/\i.nat<b/\∀h',h'.get i=h.get i->∀f x,f<sz->cs[m*sz+f]?=some x->aF (.ptr i (q+f)) h'=.ok x h':=by
 rcases s.is with⟨rfl,_⟩|⟨i,o,c,wr,all,rfl,hi,l,g⟩
 ·omega
 ·refine⟨i,o+m*sz,λh'=>yw e,hi,λh' j f x t p=>?_⟩;refine alI (by rw[j];exact l) ?_;have d:m*sz+f<n*sz:=by
   have r:m*sz+sz<=n*sz:=by rw[<-O!];exact E! sz e
   omega
  rw[<-p,<-g _ d,y!]
theorem Sl.at1{b:Nat}(s:Sl b h 1 v n cs){m:Nat}(l:m<n):∃i q x,cs[m]?=some x/\(∀h',aX 1 v (.int .i64 (m:Int)) h'=.ok (.ptr i q) h')/\i.nat<b/\∀h',h'.get i=h.get i->aF (.ptr i q) h'=.ok x h':=by
 obtain⟨i,q,e,f,g⟩:=s.at l;have hl:=s.len;have d:cs[m]?=some cs[m]:=v! (by omega);exact⟨i,q,_,d,e,f,λh' j=>g h' j 0 _ (by omega) (by simp only[Nat.mul_one,Nat.add_zero];exact d)⟩
theorem qw{all cs:List V}{q m:Nat}(l:∀f,f<m->all[q+f]?=cs[f]?)(hl:cs.length=m):gQ m (eP q all)=some cs:=by
 have j:∀f,f<m->(all.drop q)[f]?=cs[f]?:=λf d=>by rw[G!];exact l f d
 have g:m<=(all.drop q).length:=by
  rcases P! (all.drop q).length m with i|e
  ·have:=j _ i;rw[n! (j! _),v! (by omega)]at this;cases this
  ·exact e
 rw[jb,F9 g];congr 1;apply List.ext_getElem?;intro f;rw[F!];split
 ·rename_i d;exact j f d
 ·rename_i d;rw[n! (by omega)]
theorem Sl.atN{b:Nat}(s:Sl b h sz v n cs){m:Nat}(l:m<n):∃i q,(∀h',aX sz v (.int .i64 (m:Int)) h'=.ok (.ptr i q) h')/\i.nat<b/\
  (∀h',h'.get i=h.get i->∀f x,f<sz->cs[m*sz+f]?=some x->aF (.ptr i (q+f)) h'=.ok x h')/\
  ∀h',h'.get i=h.get i->bT sz (.ptr i q) h'=.ok (.agg (V.ofList ((cs.drop (m*sz)).take sz))) h':=by
 rcases s.is with⟨rfl,_⟩|⟨i,o,c,wr,all,rfl,hi,j,e⟩
 ·omega
 ·have p:m*sz+sz<=n*sz:=by rw[<-O!];exact E! sz l
  refine⟨i,o+m*sz,λh'=>yw l,hi,λh' d f x g r=>?_,λh' d=>?_⟩
  ·refine alI (by rw[d];exact j) ?_;rw[<-r,<-e _ (by omega),y!]
  ·show dQ h' i _=_;rw[dL (by rw[d];exact j)];have:gQ sz (eP (o+m*sz) all)=some ((cs.drop (m*sz)).take sz):=qw (λf g=>by
    rw[F!,if_pos g,G!,<-e _ (by omega),y!]) (by rw[List.length_take,List.length_drop,s.len];omega)
   rw[this]
structure Ow (b:Nat) (h:Hp) (el:TypeId) (sz:Nat) (v:V) (n:Nat) (cs:List V):Prop where
 len:cs.length=n*sz
 is:(n=0/\v=.aO)\/∃i,v=.slice i 0 n (.un sz)/\b<=i.nat/\i.nat<h.next.nat/\∃f,h.get i=some (.cells (.rw el f) cs)
theorem Ow.nil(b:Nat)(h:Hp)(el:TypeId)(sz:Nat):Ow b h el sz .aO 0 []:=⟨by simp,.inl ⟨rfl,rfl⟩⟩
theorem Ow.sl{b:Nat}(s:Ow b h el sz v n cs):Sl h.next.nat h sz v n cs:=⟨s.len,by
 rcases s.is with⟨rfl,rfl⟩|⟨i,rfl,_,hi,f1,d⟩
 ·exact .inl ⟨rfl,.inl rfl⟩
 ·exact .inr ⟨i,0,_,.rw el f1,cs,rfl,hi,by rw[d];rfl,λk _=>by rw[A!]⟩⟩
theorem Ow.keep{b:Nat}(s:Ow b h el sz v n cs)(f:h.next.nat<=h'.next.nat)(d:∀j,b<=j.nat->j.nat<h.next.nat->h'.get j=h.get j):Ow b h' el sz v n cs:=⟨s.len,by
 rcases s.is with⟨rfl,rfl⟩|⟨i,rfl,hb,hi,f1,e⟩
 ·exact .inl ⟨rfl,rfl⟩
 ·exact .inr ⟨i,rfl,hb,by omega,f1,by rw[d i hb hi];exact e⟩⟩
theorem ad5(l:List V):gQ l.length l=some l:=by rw[F9 (j! _)];simp
def bC:V->Option Pos
 | .slice i _ _ _=>some i
 |_=>none
def Sep(v u:V):Prop:=∀i,bC v=some i->bC u≠some i
theorem Sep.symm{u v:V}(h:Sep v u):Sep u v:=λi a b=>h i b a
theorem sF(z:V)(k:IntKind)(a:Int):bJ el [z] 1 [(0,1,.int k a)] h=.ok (.slice h.next 0 1 (.kn 1)) (h.new (.cells (.rw el true) [.int k a])):=(rfl)
theorem ati(z y:V)(j k:IntKind)(a b:Int):bU [z,y] [(0,1,.int j a),(1,1,.int k b)] h=.ok (.agg (.cons (.int j a) (.cons (.int k b) .nil))) h:=(rfl)
theorem ab3(z y u w:V):bJ el [z,y] 1 [(0,2,.agg (.cons u (.cons w .nil)))] h=.ok (.slice h.next 0 1 (.kn 1)) (h.new (.cells (.rw el true) [u,w])):=(rfl)
theorem Sl.src{b m:Nat}{new:List V}(t:Sl b h sz x m new)(f:Nat->List V->R V):wK sz x h f=f m new:=by
 rcases t.is with⟨rfl,g⟩|⟨i,o,c,wr,all,rfl,hi,e,d⟩
 ·have:new= []:=List.length_eq_zero_iff.1 (by rw[t.len];simp);subst this;rcases g with rfl|rfl<;>rfl
 ·show dQ h i _=_;rw[dL e,qw d t.len]
theorem lU{n:Nat}(d:n*bt<=140737488355328)(C:List V)(g f:Hp):kM el sz bt n C g f=.ok (.slice g.next 0 n (.un sz)) (f.new (.cells (.rw el false) C)):=by
 unfold kM;rw[show Q! (Nat.mul n bt) 140737488355328=true from Nat.ble_eq_true_of_le d]
theorem Gx{c m:Nat}{new cs0:List V}{p:Pos}{wr:Wr}(t:Sl c h sz x m new)(g:0<m)(e:(h.get p).bind Ob.row=some (wr,cs0))(f:m*bt<=140737488355328):
  bK el sz bt (.slice p 0 0 (.kn 0)) x h=.ok (.slice h.next 0 m (.un sz)) (h.new (.cells (.rw el false) new)):=by
 unfold bK;rw[t.src];cases m with
 |zero=>omega
 |succ m=>
  simp only[];rw[dL e];simp only[dF,A!,Nat.zero_mul];have h0:Q! (m+1) 0=false:=rfl;have d:gQ 0 (eP 0 cs0)=some []:=by rw[F9 (Nat.zero_le _)];rfl
  rw[h0,d];simp only[List.nil_append,lU f]
theorem Kz{m:Hp->R V}{v:V}{k:Out}{g g':Hp}(d:m g=.ok v g')(e:eqV v v=true):chk m v k 1 [g]=k:=by
 show(match m g with| .ok f _=>(match eqV v f with|true=>chk m v k 0 []|false=>.bad)| .bad=>.bad)=_;rw[d];simp only[e];exact akl
theorem aH5(k:IntKind)(a:Int):eqV (.int k a) (.int k a)=true:=by
 show(match b! (kix k) (kix k) with|true=>nJ a a|false=>false)=true;rw[wS,zL];simp
theorem ab7(z:V)(k:IntKind)(a:Int):eu el [z] 1 [(0,1,.int k a)]=some (.cells (.rw el true) [.int k a],λp=>.slice p 0 1 (.kn 1)):=(rfl)
theorem XR(z y f e u w d w':V):bJ el [z,y,f,e] 2 [(0,2,.agg (.cons u (.cons w .nil))),(2,2,.agg (.cons d (.cons w' .nil)))] h=.ok (.slice h.next 0 2 (.kn 2)) (h.new (.cells (.rw el true) [u,w,d,w'])):=(rfl)
structure MapI (es:List (V×V)) (f:Int->Option V):Prop where
 keys:∀p∈es,∃a,p.1=.int .i64 a
 find:∀a,wU (.int .i64 a) es=some (f a)
end
end Go.Vm
