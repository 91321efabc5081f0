/- Lemmas. No conditions. -/
import Derived.Test.YtpgppmioigacoaaGreatDoorFAD
set_option linter.all false
open List renaming mem_cons_of_mem→a!,mem_cons→b!,nodup_cons→g!,mem_map_of_mem→i!,filterMap_cons→n!,mem_filter→p!,getD_eq_getElem?_getD→r!,getElem?_eq_none→u!,mem_cons_self→x!,append_assoc→A!,append_nil→D!,mem_range→F!,mem_map→G!,Perm→K!
open Nat renaming le_refl→c!,lt_or_ge→d!,blt_eq→J!
open Array renaming getD_eq_getD_getElem?→e!,getElem?_eq_getElem→j!,mem_of_getElem?→l!,getD→q!,all_eq_true'→v!,replicate→C!
open Go.Region renaming wanted→h!,ready→k!,binds→E!
open Bool renaming and_eq_true→o!,false_eq_true→y!,not_eq_true'→B!
open List.Sublist renaming refl→t!,append→I!
open Option renaming getD_some→w!,map_some→z!
noncomputable section
namespace Go.Vm
section
variable{P:Program}{e:FuncId->Option Fun}{ops:Array Oper}{sb:Nat->Nat->Bool}{fr:F}
inductive Cls where
 |pure
 |read (cnt:Nat)
 |alloc
 |heavy
 |own (a:Nat)
 |ins (a:Nat)
abbrev Plan:=List (Nat×Cls)
def IX(ops:Array Oper)(sb:Nat->Nat->Bool)(i t:Nat):Bool:=(List.range ops.size).any λi'=>(match ops[i']? with
 |some o'=>(match o'.dst with|some d=>(match Nat.beq d t with|true=>sb i' i|false=>false)|none=>false)
 |none=>false)
def aln(ops:Array Oper)(sb:Nat->Nat->Bool)(fr:F)(i:Nat)(env:Env)(x:Operand)(k:V->Out):Out:=match x with
 | .tmp t=>(match IX ops sb i t with
  |true=>(match dB t env with|some v=>k v|none=>.bad)
  |false=>gt (Pos.of t) fr k)
 | .const c=>(match const c with|some v=>k v|none=>.bad)
 | .global g=>k (.ptr (Pos.of g) 0)
 | .func f=>k (.func (.func f) .nil .nil)
def zk(ops:Array Oper)(sb:Nat->Nat->Bool)(fr:F)(i:Nat)(env:Env):List Operand->(List V->Out)->Out
 | [],k=>k []
 |x::l,k=>aln ops sb fr i env x λv=>zk ops sb fr i env l λvs=>k (v::vs)
def uU(d:Option Nat)(v:V)(env:Env)(k:Env->Out):Out:=match d with
 |none=>k env
 |some d=>(match dB d env with|none=>k ((d,v)::env)|some _=>.bad)
def chk(m:Hp->R V)(v:V)(k:Out):Nat->List Hp->Out
 |0,_=>k
 |_+1,[]=>k
 |n+1,g::l=>(match m g with| .ok a _=>(match eqV v a with|true=>chk m v k n l|false=>.bad)| .bad=>.bad)
def ah3(P:Program)(op:Op):Bool:=match op with
 | .convert s d _=>(match P.underlying s,P.underlying d with
  |some (.slice _),some .string=>true
  |_,_=>false)
 |_=>false
def alh(v:V):Option Pos:=match v with| .slice i _ _ _=>some i|_=>none
def aHU(u:V)(q:Pos)(k:Out):Out:=match alh u with
 |some p=>(match Nat.blt p.nat q.nat with|true=>k|false=>.bad)
 |none=>.bad
def ave{op:Op}{u:V}{p:Pos}(f:ah3 P op=true)(j:alh u=some p){h g h':Hp}{v:V}(w:g.get p=h.get p)(m:iQ P e op [u] h=.ok v h'):iQ P e op [u] g=.ok v g:=by
 cases op<;>simp only[ah3]at f<;>try (cases f;done)
 rename_i s d x;show xR P s d u g=.ok v g;have e1:xR P s d u h=.ok v h':=m;unfold xR at e1⊢;split at f
 ·rename_i el r t;rw[r,t]at e1⊢;simp only[]at e1⊢;split at e1
  ·rename_i y;cases u<;>try (cases j;done)
   rename_i i o n c;cases j;have e2:dV h p (λ_ cs=>(match gy n (fB o cs) with
    |some l=>(match sO l with|some s=>R.ok (V.str s) h|none=>.bad)
    |none=>.bad))=.ok v h':=e1
   show dV g p (λ_ cs=>(match gy n (fB o cs) with
    |some l=>(match sO l with|some s=>R.ok (V.str s) g|none=>.bad)
    |none=>.bad))=.ok v g
   unfold dV at e2⊢;rw[w];cases b:h.get p with
   |none=>rw[b]at e2;cases e2
   |some ob=>
    rw[b]at e2;have fin:∀cs:List V,(match gy n (fB o cs) with
      |some l=>(match sO l with|some s=>R.ok (V.str s) h|none=>.bad)
      |none=>.bad)=.ok v h'->(match gy n (fB o cs) with
      |some l=>(match sO l with|some s=>R.ok (V.str s) g|none=>.bad)
      |none=>.bad)=R.ok v g:=by
     intro cs a;split at a
     ·rename_i l hl;split at a
      ·rename_i s z;cases a;rfl
      ·cases a
     ·cases a
    cases ob<;>first|exact fin _ e2|cases e2
  ·cases e1
 ·cases f
def aAi{op:Op}{u:V}{p:Pos}(a:ah3 P op=true)(b:alh u=some p){h h':Hp}{v:V}(f:iQ P e op [u] h=.ok v h'):∃cs,(h.get p).bind Ob.row=some cs:=by
 cases op<;>simp only[ah3]at a<;>try (cases a;done)
 rename_i s d x;have e1:xR P s d u h=.ok v h':=f;unfold xR at e1;split at a
 ·rename_i el g j;rw[g,j]at e1;simp only[]at e1;split at e1
  ·cases u<;>try (cases b;done)
   rename_i i o n c;cases b;have e2:dV h p (λ_ cs=>(match gy n (fB o cs) with
    |some l=>(match sO l with|some s=>R.ok (V.str s) h|none=>.bad)
    |none=>.bad))=.ok v h':=e1
   obtain⟨w,cs,m,_⟩:=gQ e2;exact⟨_,m⟩
  ·cases e1
 ·cases a
def aIO{op:Op}{vs:List V}{ob:Ob}{mk:Pos->V}(a:Au P op vs=some (ob,mk)){p i:Pos}(h:alh (mk p)=some i):i=p:=by
 have key:∀{m:Pos->V},(∀p,alh (m p)=none\/alh (m p)=some p)->mk=m->i=p:=λj b=>by
  rw[b]at h;rcases j p with f|f
  ·rw[f]at h;cases h
  ·rw[f]at h;cases h;rfl
 have slice:∀{l o:Nat} {c:Cap},mk=(λp=>.slice p o l c)->i=p:=λb=>key (λp=>.inr rfl) b;have ptr:∀{o:Nat},mk=(λp=>.ptr p o)->i=p:=λb=>key (λp=>.inl rfl) b;have g:∀{el:TypeId} {z:List V} {len:Nat} {qs:List (Nat×Nat×V)},eH el z len qs=some (ob,mk)->i=p:=λe1=>by
  unfold eH at e1;split at e1
  ·cases e1;exact slice rfl
  ·cases e1
 cases op<;>simp only[Au]at a<;>try (cases a;done)
 case alloc t=>
  split at a
  ·split at a
   ·cases a;exact ptr rfl
   ·cases a
  ·cases a
 case box t x=>
  split at a
  ·unfold alN at a;split at a
   ·cases a;exact ptr rfl
   ·cases a
  ·cases a
 case buildSlice t len ps=>
  split at a
  ·unfold auo at a
   (repeat' split at a)<;>first|(cases a;exact slice rfl)|cases a
  ·unfold Jd at a
   (repeat' split at a)<;>first|exact g a|cases a
 case makeSlice t l c=>
  unfold Ji at a
  (repeat' split at a)<;>first|(cases a;exact slice rfl)|cases a
 case makeMap t r=>
  (repeat' split at a)<;>first|(cases a;exact key (λp=>.inl rfl) rfl)|cases a
 case convert s d x=>
  unfold OO at a
  (repeat' split at a)<;>first|(cases a;exact slice rfl)|cases a
def aqf(x:V)(es:List (V×V)):Bool:=List.rec (motive:=λ_=>Bool) true (λp _ a=>match iR x p.1 with|some b=>(match b with|true=>false|false=>a)|none=>false) es
def aAw{x:V}:∀{es:List (V×V)},aqf x es=true->∀(n:Nat) k v,es[n]?=some (k,v)->iR x k=some false
 | [],_,n,k,v,hn=>by simp at hn
 |(a,v0)::es,h,n,k,v,hn=>by
  have e:aqf x ((a,v0)::es)=(match iR x a with|some b=>(match b with|true=>false|false=>aqf x es)|none=>false):=rfl;rw[e]at h;split at h
  ·rename_i b hb;split at h
   ·cases h
   ·cases n with
    |zero=>simp at hn;obtain⟨rfl,rfl⟩:=hn;exact hb
    |succ n=>exact aAw h n k v (by simpa using hn)
  ·cases h
def aIg(d:TypeDesc)(m x y:V)(base cur:Hp)(q:Pos)(k:Hp->Out):Out:=match nZ d x with
 |true=>(match m with
  | .map p=>(match Nat.blt p.nat q.nat with
   |true=>(match base.get p with
    |none=>(match cur.get p with
     |some ob=>(match ob with
      | .map es=>(match aqf x es with|true=>k (cur.put p (some (.map (es++ [(x,y)]))))|false=>.bad)
      |_=>.bad)
     |none=>.bad)
    |some _=>.bad)
   |false=>.bad)
  |_=>.bad)
 |false=>.bad
def aly(P:Program)(op:Op)(vs:List V)(base cur:Hp)(q:Pos)(k:Hp->Out):Out:=match op with
 | .insert t _ _ _=>(match P.underlying t with
  |some (.map a _)=>(match P.underlying a with|some d=>(match vs with| [m,x,y]=>aIg d m x y base cur q k|_=>.bad)|none=>.bad)
  |_=>.bad)
 |_=>.bad
def aKi(P:Program)(op:Op)(x:V):Prop:=∃t f kk vv a b d,op=.insert t f kk vv/\P.underlying t=some (.map a b)/\P.underlying a=some d/\nZ d x=true
def aAF{op:Op}{vs:List V}{base cur:Hp}{q:Pos}{k:Hp->Out}{out:Out}(hb:out≠ .bad)(h:aly P op vs base cur q k=out):
  ∃p x y es,vs= [.map p,x,y]/\aKi P op x/\p.nat<q.nat/\base.get p=none/\cur.get p=some (.map es)/\aqf x es=true/\k (cur.put p (some (.map (es++ [(x,y)]))))=out:=by
 unfold aly at h;split at h
 ·rename_i t r kk vv;split at h
  ·rename_i o j f;split at h
   ·rename_i d hd;split at h
    ·rename_i m x y;unfold aIg at h;split at h
     ·rename_i n;split at h
      ·rename_i p;split at h
       ·rename_i g;split at h
        ·rename_i a;split at h
         ·rename_i ob b;split at h
          ·rename_i es;split at h
           ·rename_i hn;exact⟨p,x,y,es,rfl,⟨t,r,kk,vv,o,j,d,rfl,f,hd,n⟩,by simpa[J!]using g,a,b,hn,h⟩
           ·exact absurd h.symm hb
          ·exact absurd h.symm hb
         ·exact absurd h.symm hb
        ·exact absurd h.symm hb
       ·exact absurd h.symm hb
      ·exact absurd h.symm hb
     ·exact absurd h.symm hb
    ·exact absurd h.symm hb
   ·exact absurd h.symm hb
  ·exact absurd h.symm hb
 ·exact absurd h.symm hb
def rV(P:Program)(e:FuncId->Option Fun)(o:Oper)(c:Cls)(vs:List V)(base cur:Hp)(past:List Hp)(q:Pos)(k:V->Hp->Hp->List Hp->Pos->Out):Out:=match c with
 | .pure=>(match Uw P o.op with|true=>bnd (iQ P e o.op vs) base (λv _=>k v base cur past q)|false=>.bad)
 | .read cnt=>(match am5 P o.op with|true=>bnd (iQ P e o.op vs) base (λv _=>chk (iQ P e o.op vs) v (k v base cur past q) cnt past)|false=>.bad)
 | .alloc=>(match Au P o.op vs with|some (ob,mk)=>k (mk q) base (cur.put q (some ob)) past q.succ|none=>.bad)
 | .heavy=>bnd (iQ P e o.op vs) cur (λv h=>k v h h (base::past) q)
 | .own _=>(match vs with
  | [u]=>(match ah3 P o.op with|true=>aHU u q (bnd (iQ P e o.op [u]) cur (λv _=>k v base cur past q))|false=>.bad)
  |_=>.bad)
 | .ins _=>aly P o.op vs base cur q λcur=>k V.undef base cur past q
def NQ(c:Cls)(base cur:Hp)(past:List Hp)(q:Pos)(k:Hp->Hp->List Hp->Pos->Out):Out:=match c with
 | .heavy=>k cur cur (base::past) q
 | .alloc=>k base cur past q
 | .pure=>k base cur past q
 | .read _=>k base cur past q
 | .own _=>k base cur past q
 | .ins _=>k base cur past q
def aIj(v:V)(b:Bool)(yes no:Out):Out:=match v with
 | .bool c=>(match b,c with|true,true=>yes|false,false=>yes|_,_=>no)
 | .tuple _=>no
 |_=>.bad
def xP(P:Program)(e:FuncId->Option Fun)(ops:Array Oper)(sb:Nat->Nat->Bool)(fr:F)(k:Env->Hp->Out):Plan->Env->Hp->Hp->List Hp->Pos->Out
 | [],env,_,cur,_,_=>k env cur
 |(i,c)::l,env,base,cur,past,q=>(match ops[i]? with
  |none=>.bad
  |some o=>(match o.guard with
   |none=>zk ops sb fr i env o.op.operands.toList λvs=>rV P e o c vs base cur past q λv base cur past q=>uU o.dst v env λenv=>xP P e ops sb fr k l env base cur past q
   |some (g,b)=>(match (ops[g]?).bind (·.dst) with
    |none=>.bad
    |some d=>(match dB d env with
     |none=>.bad
     |some v=>aIj v b
      (zk ops sb fr i env o.op.operands.toList λvs=>rV P e o c vs base cur past q λv base cur past q=>uU o.dst v env λenv=>xP P e ops sb fr k l env base cur past q)
      (NQ c base cur past q λbase cur past q=>uU o.dst V.undef env λenv=>xP P e ops sb fr k l env base cur past q)))))
def Src(ops:Array Oper)(sb:Nat->Nat->Bool)(fr:F)(E:Env)(i:Nat)(x:Operand)(v:V):Prop:=match x with
 | .tmp t=>(IX ops sb i t=true/\dB t E=some v)\/(IX ops sb i t=false/\fr.get (Pos.of t)=some v)
 | .const c=>const c=some v
 | .global g=>v=.ptr (Pos.of g) 0
 | .func f=>v=.func (.func f) .nil .nil
def UQ(ops:Array Oper)(sb:Nat->Nat->Bool)(fr:F)(E:Env)(i:Nat):List Operand->List V->Prop
 | [],vs=>vs= []
 |x::l,vs=>∃v a,vs=v::a/\Src ops sb fr E i x v/\UQ ops sb fr E i l a
def Wanted(ops:Array Oper)(E:Env)(i:Nat):Prop:=∃o,ops[i]?=some o/\(o.guard=none\/∃g b d,o.guard=some (g,b)/\(ops[g]?).bind (·.dst)=some d/\dB d E=some (.bool b))
structure Tr where
 E:Env
 Bs:Nat->Hp
 Cs:Nat->Hp
 A:List (Nat×Nat×Pos×Ob)
 I:List (Nat×Nat×Pos×V×V)
def ent(I:List (Nat×Nat×Pos×V×V))(b:Nat->Bool)(j:Nat)(p:Pos):List (V×V):=
 I.filterMap λy=>if y.2.1=j/\y.2.2.1=p/\b y.1=true then some y.2.2.2 else none
def MW(es:List (V×V)):Ob->Ob
 | .map l=>.map (l++es)
 |o=>o
def MV(o:Ob):MW [] o=o:=by cases o<;>simp[MW]
def Zf{I:List (Nat×Nat×Pos×V×V)}{b:Nat->Bool}{j:Nat}{p:Pos}(h:∀y∈I,y.2.1=j->y.2.2.1=p->b y.1=false):ent I b j p= []:=by
 unfold ent;rw[List.filterMap_eq_nil_iff];intro y g;rw[if_neg];rintro⟨d,f,a⟩;rw[h y g d f]at a;cases a
def Gu{I:List (Nat×Nat×Pos×V×V)}{b b':Nat->Bool}{j:Nat}{p:Pos}(h:∀y∈I,y.2.1=j->y.2.2.1=p->b y.1=b' y.1):ent I b j p=ent I b' j p:=by
 induction I with
 |nil=>rfl
 |cons y I a=>
  have a:=a λz m=>h z (by simp[m]);have g:=h y (by simp);unfold ent at a⊢;rw[n!,n!,a];by_cases d:y.2.1=j
  ·by_cases f:y.2.2.1=p
   ·rw[g d f]
   ·simp[f]
  ·simp[d]
def MQ(y:Nat×Nat×Pos×V×V)(I:List (Nat×Nat×Pos×V×V))(b:Nat->Bool)(j:Nat)(p:Pos):ent (y::I) b j p=(if y.2.1=j/\y.2.2.1=p/\b y.1=true then [y.2.2.2] else [])++ent I b j p:=by
 unfold ent;rw[n!];by_cases h:y.2.1=j/\y.2.2.1=p/\b y.1=true
 ·rw[if_pos h,if_pos h];rfl
 ·rw[if_neg h,if_neg h];rfl
def aLi(I:List (Nat×Nat×Pos×V×V))(b:Nat->Bool)(j:Nat)(p:Pos):List.Sublist (ent I b j p) (ent I (λ_=>true) j p):=by
 induction I with
 |nil=>exact t! _
 |cons y I a=>
  rw[MQ,MQ];refine I! ?_ a;by_cases h:y.2.1=j/\y.2.2.1=p/\b y.1=true
  ·rw[if_pos h,if_pos ⟨h.1,h.2.1,rfl⟩];exact t! _
  ·rw[if_neg h];exact List.nil_sublist _
def aqx{y:Nat×Nat×Pos×V×V}{b b':Nat->Bool}:∀{I:List (Nat×Nat×Pos×V×V)},(I.map (·.1)).Nodup->y∈I->b y.1=false->b' y.1=true->(∀k,k≠y.1->b' k=b k)->
  K! (ent I b' y.2.1 y.2.2.1) (ent I b y.2.1 y.2.2.1++ [y.2.2.2])
 | [],_,d,_,_,_=>by cases d
 |z::I,hn,d,h0,g,f=>by
  have a:=g!.1 (by simpa using hn:(z.1::I.map (·.1)).Nodup);rw[MQ,MQ];rcases b!.1 d with rfl|d
  ·rw[if_pos ⟨rfl,rfl,g⟩,if_neg (λh=>by rw[h0]at h;cases h.2.2)];rw[Gu (b:=b') (b':=b) (λw j _ _=>f _ λe=>a.1 (by rw[<-e];exact i! j))];exact(List.perm_append_singleton _ _).symm
  ·have m:z.1≠y.1:=λe=>a.1 (by rw[e];exact i! d);rw[f _ m,A!];exact(aqx a.2 d h0 g f).append_left _
def aTs(P:Program)(e:FuncId->Option Fun)(T:Tr)(i:Nat)(o:Oper)(j:Nat)(c:Cls)(vs:List V)(v:V):Prop:=match c with
 | .pure=>Uw P o.op=true/\∃h h',iQ P e o.op vs h=.ok v h'
 | .read cnt=>am5 P o.op=true/\∀j',j'<=j->j<=j'+cnt->∃h',iQ P e o.op vs (T.Bs j')=.ok v h'
 | .alloc=>∃ob mk p,Au P o.op vs=some (ob,mk)/\v=mk p/\(i,j,p,ob)∈T.A
 | .heavy=>iQ P e o.op vs (T.Cs j)=.ok v (T.Bs (j+1))
 | .own _=>∃u p h',vs= [u]/\ah3 P o.op=true/\alh u=some p/\iQ P e o.op [u] (T.Cs j)=.ok v h'
 | .ins _=>∃p x y,vs= [.map p,x,y]/\aKi P o.op x/\v=V.undef/\(i,j,p,x,y)∈T.I
def jV(P:Program)(e:FuncId->Option Fun)(ops:Array Oper)(sb:Nat->Nat->Bool)(fr:F)(T:Tr)(i:Nat)(c:Cls)(j:Nat):Prop:=
 ∃o,ops[i]?=some o/\
  (((o.guard=none\/∃g b d,o.guard=some (g,b)/\(ops[g]?).bind (·.dst)=some d/\dB d T.E=some (.bool b))/\
   ∃vs v,UQ ops sb fr T.E i o.op.operands.toList vs/\(∀d,o.dst=some d->dB d T.E=some v)/\aTs P e T i o j c vs v)\/
  ((∃g b d,o.guard=some (g,b)/\(ops[g]?).bind (·.dst)=some d/\(dB d T.E=some (.bool (!b))\/∃l,dB d T.E=some (.tuple l)))/\
   (∀d,o.dst=some d->dB d T.E=some V.undef)/\(c=.heavy->T.Bs (j+1)=T.Cs j)))
def phased:Nat->Plan->List (Nat×Cls×Nat)
 |_,[]=> []
 |j,(i,c)::l=>(i,c,j)::phased (match c with| .heavy=>j+1|_=>j) l
def bG:Plan->Nat
 | []=>0
 |(_,c)::l=>(match c with| .heavy=>bG l+1|_=>bG l)
def jF:Plan->Nat
 | []=>0
 |(_,c)::l=>(match c with| .alloc=>jF l+1|_=>jF l)
def arY{i:Nat}{c:Cls}{j:Nat}:∀{j₀:Nat} {l:Plan},(i,c,j)∈phased j₀ l->j₀<=j
 |j₀,(i',a)::l,h=>by
  rcases b!.1 h with h|h
  ·cases h;exact c! _
  ·have:=arY h;cases a<;>simp only[]at this<;>omega
def UQ.mono{E b:Env}(d:∀t v,dB t E=some v->dB t b=some v){i:Nat}:∀{l:List Operand} {vs:List V},UQ ops sb fr E i l vs->UQ ops sb fr b i l vs
 | [],_,h=>h
 |x::l,_,⟨v,m,e,a,j⟩=>⟨v,m,e,by
   cases x with
   |tmp t=>exact a.imp (λh=>⟨h.1,d _ _ h.2⟩) id
   |const c=>exact a
   |global g=>exact a
   |func f=>exact a,UQ.mono d j⟩
def avk{i:Nat}{env:Env}{out:Out}(hb:out≠ .bad):∀{l:List Operand} {k:List V->Out},zk ops sb fr i env l k=out->∃vs,k vs=out/\UQ ops sb fr env i l vs
 | [],k,h=>⟨[],h,rfl⟩
 |x::l,k,h=>by
  unfold zk at h;have:∃v,zk ops sb fr i env l (λvs=>k (v::vs))=out/\Src ops sb fr env i x v:=by
   cases x with
   |tmp t=>
    simp only[aln]at h;split at h
    ·rename_i b;split at h
     ·rename_i v a;exact⟨v,h,.inl ⟨b,a⟩⟩
     ·exact absurd h.symm hb
    ·rename_i b;unfold gt at h;split at h
     ·rename_i v a;exact⟨v,h,.inr ⟨b,a⟩⟩
     ·exact absurd h.symm hb
   |const c=>
    simp only[aln]at h;split at h
    ·rename_i v a;exact⟨v,h,a⟩
    ·exact absurd h.symm hb
   |global g=>exact⟨_,h,rfl⟩
   |func f=>exact⟨_,h,rfl⟩
  obtain⟨v,d,j⟩:=this;obtain⟨vs,m,n⟩:=avk hb d;exact⟨v::vs,m,v,vs,rfl,j,n⟩
def Gv{d:Option Nat}{v:V}{env:Env}{k:Env->Out}{out:Out}(hb:out≠ .bad)(h:uU d v env k=out):
  ∃B,k B=out/\(∀t u,dB t env=some u->dB t B=some u)/\∀x,d=some x->dB x B=some v:=by
 unfold uU at h;split at h
 ·exact⟨env,h,λ_ _ h=>h,λx b=>by cases b⟩
 ·rename_i d;split at h
  ·rename_i hn;refine⟨_,h,λt u a=>?_,λx b=>?_⟩
   ·rw[jE];split
    ·rename_i e;subst e;rw[hn]at a;cases a
    ·exact a
   ·cases b;rw[jE,if_pos rfl]
  ·exact absurd h.symm hb
def aFl{m:Hp->R V}{v:V}{k out:Out}(hb:out≠ .bad):∀{n:Nat} {l:List Hp},chk m v k n l=out->k=out/\∀r g,r<n->l[r]?=some g->∃h',m g=.ok v h'
 |0,_,h=>⟨by cases‹List Hp›<;>exact h,λr g j=>by omega⟩
 |n+1,[],h=>⟨h,λr g _ a=>by cases a⟩
 |n+1,g::l,h=>by
  unfold chk at h;split at h
  ·rename_i p h' f;split at h
   ·rename_i o;obtain⟨b,d⟩:=aFl hb h;refine⟨b,λr g' j a=>?_⟩;cases r with
    |zero=>cases a;rw[sV o];exact⟨_,f⟩
    |succ r=>exact d r g' (by omega) a
   ·exact absurd h.symm hb
  ·exact absurd h.symm hb
structure Told (P:Program) (e:FuncId->Option Fun) (ops:Array Oper) (sb:Nat->Nat->Bool) (fr:F) (k:Env->Hp->Out) (l:Plan) (env:Env) (base cur:Hp) (past pc:List Hp) (q:Pos) (out:Out) (T:Tr):Prop where
 tEnv:∀t v,dB t env=some v->dB t T.E=some v
 tBase:T.Bs past.length=base
 tPast:∀r g,past[r]?=some g->T.Bs (past.length - 1 - r)=g
 tPc:∀r g,pc[r]?=some g->T.Cs (past.length - 1 - r)=g
 steps:∀i c j,(i,c,j)∈phased past.length l->jV P e ops sb fr T i c j
 a1:∀i j p ob,(i,j,p,ob)∈T.A->q.nat<=p.nat/\p.nat<q.nat+jF l/\(i,.alloc,j)∈phased past.length l/\(T.Cs j).get p=some (MW (ent T.I (λ_=>true) j p) ob)/\Wanted ops T.E i
 a2:∀a a',a∈T.A->a'∈T.A->a.2.2.1=a'.2.2.1->a=a'
 a3:∀a a',a∈T.A->a'∈T.A->a.1=a'.1->a=a'
 cs:∀x,(∀i ob,(i,past.length,x,ob)∉T.A)->(T.Cs past.length).get x=(cur.get x).map (MW (ent T.I (λ_=>true) past.length x))
 i1:∀i j p x y,(i,j,p,x,y)∈T.I->((j=past.length/\base.get p=none/\∃es,cur.get p=some (.map es))\/∃a ob,(a,j,p,ob)∈T.A)/\(∃a,(i,.ins a,j)∈phased past.length l)/\Wanted ops T.E i
 i2:(T.I.map (·.1)).Nodup
 i3:∀x es,(∀i ob,(i,past.length,x,ob)∉T.A)->cur.get x=some (.map es)->iE es->iE (es++ent T.I (λ_=>true) past.length x)
 i4:∀i j p es,(i,j,p,.map es)∈T.A->iE es->iE (es++ent T.I (λ_=>true) j p)
 cn:(T.Cs past.length).next=cur.next
 ct:∀j,past.length<j->(∀x,(∀i ob,(i,j,x,ob)∉T.A)->(T.Cs j).get x=(T.Bs j).get x)/\(T.Cs j).next=(T.Bs j).next
 out:k T.E (T.Cs (past.length+bG l))=out
variable{k:Env->Hp->Out}{l:Plan}{env B:Env}{base cur:Hp}{past pc:List Hp}{q:Pos}{out:Out}{T:Tr}{i:Nat}{c:Cls}
def Told.stay(t:Told P e ops sb fr k l B base cur past pc q out T)(s:∀t v,dB t env=some v->dB t B=some v)(m:c≠ .heavy)
  (r:jV P e ops sb fr T i c past.length):Told P e ops sb fr k ((i,c)::l) env base cur past pc q out T:=by
 have f:phased past.length ((i,c)::l)=(i,c,past.length)::phased past.length l:=by cases c<;>first|rfl|exact absurd rfl m
 have hh:bG ((i,c)::l)=bG l:=by cases c<;>first|rfl|exact absurd rfl m
 have u:jF l<=jF ((i,c)::l):=by cases c<;>simp[jF]
 refine⟨λx v h=>t.tEnv x v (s x v h),t.tBase,t.tPast,t.tPc,λi' n j' h=>?_,λi' j p ob h=>?_,t.a2,t.a3,t.cs,λi' j p x y h=>?_,t.i2,t.i3,t.i4,t.cn,t.ct,by rw[hh];exact t.out⟩
 ·rw[f]at h;rcases b!.1 h with h|h
  ·cases h;exact r
  ·exact t.steps i' n j' h
 ·obtain⟨b,g,d,o⟩:=t.a1 i' j p ob h;exact⟨b,by omega,by rw[f];exact a! _ d,o⟩
 ·obtain⟨b,⟨a,g⟩,d⟩:=t.i1 _ _ _ _ _ h;exact⟨b,⟨a,by rw[f];exact a! _ g⟩,d⟩
def jV.more{x:Nat×Nat×Pos×Ob}{i:Nat}{c:Cls}{j:Nat}(h:jV P e ops sb fr T i c j):jV P e ops sb fr {T with A:=x::T.A} i c j:=by
 obtain⟨o,r,h⟩:=h;refine⟨o,r,h.imp (λ⟨g,vs,v,m,n,f⟩=>⟨g,vs,v,m,n,?_⟩) id⟩;cases c with
 |pure=>exact f
 |read cnt=>exact f
 |heavy=>exact f
 |own a=>exact f
 |ins a=>exact f
 |alloc=>
  obtain⟨ob,mk,p,a,b,d⟩:=f;exact⟨ob,mk,p,a,b,a! _ d⟩
def jV.aSV{x:Nat×Nat×Pos×V×V}{i:Nat}{c:Cls}{j:Nat}(h:jV P e ops sb fr T i c j):jV P e ops sb fr {T with I:=x::T.I} i c j:=by
 obtain⟨o,r,h⟩:=h;refine⟨o,r,h.imp (λ⟨g,vs,v,m,n,f⟩=>⟨g,vs,v,m,n,?_⟩) id⟩;cases c with
 |pure=>exact f
 |read cnt=>exact f
 |heavy=>exact f
 |own a=>exact f
 |alloc=>exact f
 |ins a=>
  obtain⟨p,x,y,a,b,d,e⟩:=f;exact⟨p,x,y,a,b,d,a! _ e⟩
def Told.alloc{ob:Ob}(hi:∀c j,(i,c,j)∉phased past.length l)(t:Told P e ops sb fr k l B base (cur.put q (some ob)) past pc q.succ out T)(K:∀t v,dB t env=some v->dB t B=some v)
  (d:jV P e ops sb fr {T with A:=(i,past.length,q,ob)::T.A} i .alloc past.length) (O:Wanted ops T.E i):
  Told P e ops sb fr k ((i,.alloc)::l) env base cur past pc q out {T with A:=(i,past.length,q,ob)::T.A}:=by
 have S:q.succ.nat=q.nat+1:=Pos.fD q;have m:∀i' j b,(i',j,q,b)∉T.A:=λi' j b h=>by
  have:=(t.a1 _ _ _ _ h).1;omega
 refine⟨λx v h=>t.tEnv x v (K x v h),t.tBase,t.tPast,t.tPc,λi' I j' h=>?_,λi' j p b h=>?_,λa a' C n g=>?_,λa a' C n g=>?_,λx s=>?_,λi' j p x y h=>?_,t.i2,λx es s M w=>?_,λi' j p es h w=>?_,t.cn,λj hj=>⟨λx s=>?_,(t.ct j hj).2⟩,t.out⟩
 ·rcases b!.1 h with h|h
  ·cases h;exact d
  ·exact(t.steps i' I j' h).more
 ·have L:jF ((i,.alloc)::l)=jF l+1:=rfl;rcases b!.1 h with h|h
  ·cases h;obtain⟨o,Q,N⟩:=d;refine⟨c! _,by omega,x! ..,?_,O⟩;show(T.Cs past.length).get q=some _;rw[t.cs q (λi' b=>m i' _ b),Hp.dU];rfl
  ·obtain⟨G,H,z,J⟩:=t.a1 i' j p b h;exact⟨by omega,by omega,a! _ z,J⟩
 ·rcases b!.1 C with d|d<;>rcases b!.1 n with f|f
  ·rw[d,f]
  ·rw[d]at g;exact absurd (show(a'.1,a'.2.1,q,a'.2.2.2)∈T.A by rw[show q=a'.2.2.1 from g];exact f) (m _ _ _)
  ·rw[f]at g;exact absurd (show(a.1,a.2.1,q,a.2.2.2)∈T.A by rw[show q=a.2.2.1 from g.symm];exact d) (m _ _ _)
  ·exact t.a2 a a' d f g
 ·rcases b!.1 C with d|d<;>rcases b!.1 n with f|f
  ·rw[d,f]
  ·rw[d]at g;have:=(t.a1 _ _ _ _ f).2.2.1;rw[<-show i=a'.1 from g]at this;exact absurd this (hi _ _)
  ·rw[f]at g;have:=(t.a1 _ _ _ _ d).2.2.1;rw[show a.1=i from g]at this;exact absurd this (hi _ _)
  ·exact t.a3 a a' d f g
 ·have r:x≠q:=λe=>by subst e;exact s i ob (by simp)
  show(T.Cs past.length).get x=_;rw[t.cs x (λi' b h=>s i' b (a! _ h)),Hp.dA _ r]
 ·obtain⟨G,⟨a,H⟩,z⟩:=t.i1 _ _ _ _ _ h;refine⟨?_,⟨a,a! _ H⟩,z⟩;rcases G with⟨e1,e2,es,D⟩|⟨a,b,e1⟩
  ·by_cases u:p=q
   ·subst u;exact .inr ⟨i,ob,by rw[e1];simp⟩
   ·rw[Hp.dA _ u]at D;exact .inl ⟨e1,e2,es,D⟩
  ·exact .inr ⟨a,b,a! _ e1⟩
 ·have r:x≠q:=λe=>by subst e;exact s i ob (by simp)
  exact t.i3 x es (λi' b h=>s i' b (a! _ h)) (by rw[Hp.dA _ r];exact M) w
 ·rcases b!.1 h with h|h
  ·cases h;exact t.i3 _ es (λi' b=>m i' _ b) (Hp.dU _ _ _) w
  ·exact t.i4 i' j p es h w
 ·exact(t.ct j hj).1 x (λi' b h=>s i' b (a! _ h))
def Told.ins{a:Nat}{p:Pos}{x y:V}{es:List (V×V)}(hi:∀c j,(i,c,j)∉phased past.length l)(X:p.nat<q.nat)(H:base.get p=none)(o:cur.get p=some (.map es))(w:aqf x es=true)
  (t:Told P e ops sb fr k l B base (cur.put p (some (.map (es++ [(x,y)])))) past pc q out T) (W:∀t v,dB t env=some v->dB t B=some v)
  (U:jV P e ops sb fr {T with I:=(i,past.length,p,x,y)::T.I} i (.ins a) past.length) (Y:Wanted ops T.E i):
  Told P e ops sb fr k ((i,.ins a)::l) env base cur past pc q out {T with I:=(i,past.length,p,x,y)::T.I}:=by
 have M:∀i' j g,(i',j,p,g)∉T.A:=λi' j g h=>by
  have:=(t.a1 _ _ _ _ h).1;omega
 have d:∀j z,(j≠past.length\/z≠p)->ent ((i,past.length,p,x,y)::T.I) (λ_=>true) j z=ent T.I (λ_=>true) j z:=λj z n=>by
  rw[MQ,if_neg (λh=>by rcases n with n|n;exact n h.1.symm;exact n h.2.1.symm)];rfl
 have f:ent ((i,past.length,p,x,y)::T.I) (λ_=>true) past.length p=(x,y)::ent T.I (λ_=>true) past.length p:=by
  rw[MQ,if_pos ⟨rfl,rfl,rfl⟩];rfl
 refine⟨λz v h=>t.tEnv z v (W z v h),t.tBase,t.tPast,t.tPc,λi' O j' h=>?_,λi' j m g h=>?_,t.a2,t.a3,λz n=>?_,λi' j m Z y' h=>?_,?_,λz r n J D=>?_,λi' j m r h D=>?_,t.cn,t.ct,t.out⟩
 ·rcases b!.1 h with h|h
  ·cases h;exact U
  ·exact(t.steps i' O j' h).aSV
 ·obtain⟨s,u,G,Q,S⟩:=t.a1 i' j m g h;refine⟨s,u,a! _ G,?_,S⟩;show(T.Cs j).get m=some (MW (ent ((i,past.length,p,x,y)::T.I) (λ_=>true) j m) g);rw[d j m (.inr λe=>by rw[e]at s;omega)];exact Q
 ·show(T.Cs past.length).get z=(cur.get z).map (MW (ent ((i,past.length,p,x,y)::T.I) (λ_=>true) past.length z));rw[t.cs z n];by_cases b:z=p
  ·subst b;rw[f,Hp.dU,o];simp[MW]
  ·rw[d _ z (.inr b),Hp.dA _ b]
 ·rcases b!.1 h with h|h
  ·cases h;exact⟨.inl ⟨rfl,H,es,o⟩,⟨a,x! ..⟩,Y⟩
  ·obtain⟨s,⟨a',u⟩,G⟩:=t.i1 _ _ _ _ _ h;refine⟨?_,⟨a',a! _ u⟩,G⟩;rcases s with⟨e1,e2,r,N⟩|s
   ·by_cases C:m=p
    ·subst C;exact .inl ⟨e1,e2,es,o⟩
    ·rw[Hp.dA _ C]at N;exact .inl ⟨e1,e2,r,N⟩
   ·exact .inr s
 ·show(List.map (·.1) ((i,past.length,p,x,y)::T.I)).Nodup;rw[List.map_cons,g!];refine⟨λL=>?_,t.i2⟩;obtain⟨⟨i',j',m,Z,y'⟩,L,K⟩:=G!.1 L;obtain⟨_,⟨a',u⟩,_⟩:=t.i1 _ _ _ _ _ L;have K:i'=i:=K
  subst K;exact hi _ _ u
 ·show iE (r++ent ((i,past.length,p,x,y)::T.I) (λ_=>true) past.length z);by_cases b:z=p
  ·subst b;rw[o]at J;cases J;rw[f];have:=t.i3 z (es++ [(x,y)]) n (Hp.dU _ _ _) (D.snoc (aAw w));rw[A!]at this;exact this
  ·rw[d _ z (.inr b)];exact t.i3 z r n (by rw[Hp.dA _ b];exact J) D
 ·show iE (r++ent ((i,past.length,p,x,y)::T.I) (λ_=>true) j m);rw[d j m (.inr λe=>by subst e;exact M _ _ _ h)];exact t.i4 i' j m r h D
def Told.heavy{h:Hp}(t:Told P e ops sb fr k l B h h (base::past) (cur::pc) q out T)(hl:pc.length=past.length)(M:∀t v,dB t env=some v->dB t B=some v)
  (K:jV P e ops sb fr T i .heavy past.length):Told P e ops sb fr k ((i,.heavy)::l) env base cur past pc q out T:=by
 have C:T.Cs past.length=cur:=by have:=t.tPc 0 cur rfl;simpa using this
 have m:∀x,ent T.I (λ_=>true) past.length x= []:=λx=>Zf λy w hj _=>by
  obtain⟨i',j',E,Q,S⟩:=y;obtain⟨_,⟨a,g⟩,_⟩:=t.i1 _ _ _ _ _ w;have:=arY g;have hj:j'=past.length:=hj;simp at this;omega
 refine⟨λx v h=>t.tEnv x v (M x v h),?_,λr g u=>?_,λr g u=>?_,λi' G j' h=>?_,λi' j p z h=>?_,t.a2,t.a3,λx _=>?_,λi' j p x y h=>?_,t.i2,λx es _ _ N=>?_,t.i4,by rw[C],λj hj=>?_,?_⟩
 ·have:=t.tPast 0 base rfl;simpa using this
 ·have:=t.tPast (r+1) g (by simpa using u);rw[<-this];congr 1;simp;omega
 ·have:=t.tPc (r+1) g (by simpa using u);rw[<-this];congr 1;simp;omega
 ·rcases b!.1 h with h|h
  ·cases h;exact K
  ·exact t.steps i' G j' h
 ·obtain⟨b,n,s,J⟩:=t.a1 i' j p z h;exact⟨b,n,a! _ s,J⟩
 ·rw[C,m];cases cur.get x with
  |none=>rfl
  |some o=>simp[MV]
 ·obtain⟨b,⟨a,n⟩,s⟩:=t.i1 _ _ _ _ _ h;refine⟨?_,⟨a,a! _ n⟩,s⟩;rcases b with⟨_,e2,H,f⟩|b
  ·rw[e2]at f;cases f
  ·exact .inr b
 ·rw[m,D!];exact N
 ·have O:(base::past).length=past.length+1:=rfl;by_cases e:j=past.length+1
  ·subst e;have L:T.Bs (past.length+1)=h:=t.tBase;rw[L];refine⟨λx D=>?_,t.cn⟩;have:=t.cs x D
   rw[show(base::past).length=past.length+1 from rfl]at this;rw[this,Zf λy w hj d=>?_]
   ·cases h.get x with
    |none=>rfl
    |some o=>simp[MV]
   ·exfalso;obtain⟨i',j',E,Q,S⟩:=y;have hj:j'=past.length+1:=hj;have d:E=x:=d;subst hj;subst d;obtain⟨b,_,_⟩:=t.i1 _ _ _ _ _ w;rcases b with⟨_,e2,H,f⟩|⟨a,ob,b⟩
    ·rw[e2]at f;cases f
    ·exact D a ob b
  ·exact t.ct j (by omega)
 ·have:=t.out;have e:(base::past).length+bG l=past.length+bG ((i,.heavy)::l):=by simp[bG];omega
  rw[e]at this;exact this
def anN{m:Hp->R V}{h:Hp}{k:V->Hp->Out}{out:Out}(hb:out≠ .bad)(h0:bnd m h k=out):∃v h',m h=.ok v h'/\k v h'=out:=by
 unfold bnd at h0;split at h0
 ·exact⟨_,_,by assumption,h0⟩
 ·exact absurd h0.symm hb
def xA{i:Nat}{c:Cls}{j:Nat}:∀{j₀:Nat} {l:Plan},(i,c,j)∈phased j₀ l->i∈l.map (·.1)
 |j₀,(i',a)::l,h=>by
  rcases b!.1 h with h|h
  ·cases h;simp
  ·have:=xA h;simp at this⊢;exact .inr this
def uN(hb:out≠ .bad):∀(l:Plan) (env:Env) (base cur:Hp) (past pc:List Hp) (q:Pos),(l.map (·.1)).Nodup->pc.length=past.length->xP P e ops sb fr k l env base cur past q=out->
  ∃T,Told P e ops sb fr k l env base cur past pc q out T
 | [],env,base,cur,past,pc,q,_,hl,h=>by
  let T:Tr:=⟨env,λj=>if j<past.length then past.getD (past.length - 1 - j) base else base,
   λj=>if j<past.length then pc.getD (past.length - 1 - j) base else if j=past.length then cur else base,[],[]⟩
  have N:T.Cs past.length=cur:=by simp[T]
  refine⟨T,?_⟩;constructor
  ·exact λ_ _ h=>h
  ·simp[T]
  ·intro r g K;have D:r<past.length:=by
    rcases d! r past.length with M|M
    ·exact M
    ·rw[u! M]at K;cases K
   have e1:past.length - 1 - r<past.length:=by omega
   have e2:past.length - 1 - (past.length - 1 - r)=r:=by omega
   simp only[T,e1,if_true,e2];rw[r!,K];rfl
  ·intro r g K;have D:r<pc.length:=by
    rcases d! r pc.length with M|M
    ·exact M
    ·rw[u! M]at K;cases K
   have e1:past.length - 1 - r<past.length:=by omega
   have e2:past.length - 1 - (past.length - 1 - r)=r:=by omega
   simp only[T,e1,if_true,e2];rw[r!,K];rfl
  ·intro i c j h;cases h
  ·intro i j p ob h;cases h
  ·intro a a' h;cases h
  ·intro a a' h;cases h
  ·intro x _;rw[N];show _=(cur.get x).map (MW []);cases cur.get x with
   |none=>rfl
   |some o=>simp[MV]
  ·intro i j p x y h;cases h
  ·exact List.nodup_nil
  ·intro x es _ _ hk;show iE (es++ []);rw[D!];exact hk
  ·intro i j p es h;cases h
  ·rw[N]
  ·intro j hj;have e1:¬j<past.length:=by omega
   have e2:¬j=past.length:=by omega
   simp[T,e1,e2]
  ·show k env (T.Cs (past.length+0))=out;rw[Nat.add_zero,N];exact h
 |(i,c)::l,env,base,cur,past,pc,q,W,hl,h=>by
  have s:(l.map (·.1)).Nodup:=(g!.1 (by simpa using W)).2;have Y:i∉l.map (·.1):=(g!.1 (by simpa using W)).1;unfold xP at h;split at h
  ·exact absurd h.symm hb
  rename_i o H;have run:∀(C:∀T:Tr,(∀t v,dB t env=some v->dB t T.E=some v)->o.guard=none\/∃g b d,o.guard=some (g,b)/\(ops[g]?).bind (·.dst)=some d/\dB d T.E=some (.bool b)),
    (zk ops sb fr i env o.op.operands.toList λvs=>rV P e o c vs base cur past q λv base cur past q=>uU o.dst v env λenv=>xP P e ops sb fr k l env base cur past q)=out->
    ∃T,Told P e ops sb fr k ((i,c)::l) env base cur past pc q out T:=by
   intro C h;obtain⟨vs,h,w⟩:=avk hb h;cases c with
   |pure=>
    simp only[rV]at h;split at h
    ·rename_i hp;obtain⟨v,h',z,h⟩:=anN hb h;obtain⟨B,h,f,hd⟩:=Gv hb h;obtain⟨T,t⟩:=uN hb l B base cur past pc q s hl h;exact⟨T,t.stay f (by simp) ⟨o,H,.inl ⟨C T λx u n=>t.tEnv x u (f x u n),vs,v,w.mono (λx u n=>t.tEnv x u (f x u n)),λd m=>t.tEnv d v (hd d m),hp,_,_,z⟩⟩⟩
    ·exact absurd h.symm hb
   |read cnt=>
    simp only[rV]at h;split at h
    ·rename_i hp;obtain⟨v,h',z,h⟩:=anN hb h;obtain⟨h,ad⟩:=aFl hb h;obtain⟨B,h,f,hd⟩:=Gv hb h;obtain⟨T,t⟩:=uN hb l B base cur past pc q s hl h;refine⟨T,t.stay f (by simp) ⟨o,H,.inl ⟨C T λx u n=>t.tEnv x u (f x u n),vs,v,w.mono (λx u n=>t.tEnv x u (f x u n)),λd m=>t.tEnv d v (hd d m),hp,λj' aj ak=>?_⟩⟩⟩;by_cases ej:j'=past.length
     ·subst ej;rw[t.tBase];exact⟨_,z⟩
     ·have K:past.length - 1 - j'<past.length:=by omega
      have U:=List.getElem?_eq_getElem K;have:=t.tPast _ _ U;rw[show past.length - 1 - (past.length - 1 - j')=j' by omega]at this;rw[this];exact ad _ _ (by omega) U
    ·exact absurd h.symm hb
   |alloc=>
    simp only[rV]at h;split at h
    ·rename_i ob mk aa;obtain⟨B,h,f,hd⟩:=Gv hb h;obtain⟨T,t⟩:=uN hb l B base (cur.put q (some ob)) past pc q.succ s hl h;exact⟨_,t.alloc (λc j hm=>Y (xA hm)) f ⟨o,H,.inl ⟨C _ λx u n=>t.tEnv x u (f x u n),vs,mk q,w.mono (λx u n=>t.tEnv x u (f x u n)),λd m=>t.tEnv d _ (hd d m),ob,mk,q,aa,rfl,by simp⟩⟩ ⟨o,H,C T λx u n=>t.tEnv x u (f x u n)⟩⟩
    ·exact absurd h.symm hb
   |heavy=>
    simp only[rV]at h;obtain⟨v,h',z,h⟩:=anN hb h;obtain⟨B,h,f,hd⟩:=Gv hb h;obtain⟨T,t⟩:=uN hb l B h' h' (base::past) (cur::pc) q s (by simp[hl]) h;have N:T.Cs past.length=cur:=by have:=t.tPc 0 cur rfl;simpa using this
    refine⟨T,t.heavy hl f ⟨o,H,.inl ⟨C T λx u n=>t.tEnv x u (f x u n),vs,v,w.mono (λx u n=>t.tEnv x u (f x u n)),λd m=>t.tEnv d v (hd d m),?_⟩⟩⟩;show iQ P e o.op vs (T.Cs past.length)=.ok v (T.Bs (past.length+1));rw[N,show T.Bs (past.length+1)=h' from t.tBase];exact z
   |own a=>
    simp only[rV]at h;rcases vs with _|⟨u,_|⟨_,_⟩⟩
    ·exact absurd h.symm hb
    ·simp only[]at h;split at h
     ·rename_i G;unfold aHU at h;split at h
      ·rename_i p hu;split at h
       ·rename_i D;have ai:p.nat<q.nat:=by simpa[J!]using D
        obtain⟨v,h',z,h⟩:=anN hb h;obtain⟨B,h,f,hd⟩:=Gv hb h;obtain⟨T,t⟩:=uN hb l B base cur past pc q s hl h;have Q:(T.Cs past.length).get p=cur.get p:=by
         have Q:=t.cs p λi' ob hA=>by have:=(t.a1 _ _ _ _ hA).1;omega
         obtain⟨cs,L⟩:=aAi G hu z;rw[Q];cases O:cur.get p with
         |none=>rfl
         |some o=>
          rw[O]at L;cases o<;>first|rfl|cases L
        exact⟨T,t.stay f (by simp) ⟨o,H,.inl ⟨C T λx u n=>t.tEnv x u (f x u n),[u],v,w.mono (λx u n=>t.tEnv x u (f x u n)),λd m=>t.tEnv d v (hd d m),u,p,_,rfl,G,hu,ave G hu Q z⟩⟩⟩
       ·exact absurd h.symm hb
      ·exact absurd h.symm hb
     ·exact absurd h.symm hb
    ·exact absurd h.symm hb
   |ins a=>
    simp only[rV]at h;obtain⟨p,x,y,es,rfl,af,D,ab,O,X,h⟩:=aAF hb h;obtain⟨B,h,f,hd⟩:=Gv hb h;obtain⟨T,t⟩:=uN hb l B base (cur.put p (some (.map (es++ [(x,y)])))) past pc q s hl h;exact⟨_,t.ins (λc j hm=>Y (xA hm)) D ab O X f ⟨o,H,.inl ⟨C _ λx u n=>t.tEnv x u (f x u n),_,V.undef,w.mono (λx u n=>t.tEnv x u (f x u n)),λd m=>t.tEnv d _ (hd d m),p,x,y,rfl,af,rfl,by simp⟩⟩ ⟨o,H,C T λx u n=>t.tEnv x u (f x u n)⟩⟩
  split at h
  ·rename_i ae;exact run (λT _=>.inl ae) h
  ·rename_i g b J;split at h
   ·exact absurd h.symm hb
   ·rename_i d hd;split at h
    ·exact absurd h.symm hb
    ·rename_i v hv;have skip:(∀T:Tr,(∀t v,dB t env=some v->dB t T.E=some v)->∃g b d,o.guard=some (g,b)/\(ops[g]?).bind (·.dst)=some d/\(dB d T.E=some (.bool (!b))\/∃l,dB d T.E=some (.tuple l)))->
       (NQ c base cur past q λbase cur past q=>uU o.dst V.undef env λenv=>xP P e ops sb fr k l env base cur past q)=out->
       ∃T,Told P e ops sb fr k ((i,c)::l) env base cur past pc q out T:=by
      intro C h;have light:c≠ .heavy->(uU o.dst V.undef env λenv=>xP P e ops sb fr k l env base cur past q)=out->∃T,Told P e ops sb fr k ((i,c)::l) env base cur past pc q out T:=by
       intro hc h;obtain⟨B,h,f,S⟩:=Gv hb h;obtain⟨T,t⟩:=uN hb l B base cur past pc q s hl h;exact⟨T,t.stay f hc ⟨o,H,.inr ⟨C T λx u n=>t.tEnv x u (f x u n),λd m=>t.tEnv d _ (S d m),λe=>absurd e hc⟩⟩⟩
      cases c with
      |pure=>exact light (by simp) h
      |read cnt=>exact light (by simp) h
      |alloc=>exact light (by simp) h
      |own a=>exact light (by simp) h
      |ins a=>exact light (by simp) h
      |heavy=>
       simp only[NQ]at h;obtain⟨B,h,f,S⟩:=Gv hb h;obtain⟨T,t⟩:=uN hb l B cur cur (base::past) (cur::pc) q s (by simp[hl]) h;have N:T.Cs past.length=cur:=by have:=t.tPc 0 cur rfl;simpa using this
       exact⟨T,t.heavy hl f ⟨o,H,.inr ⟨C T λx u n=>t.tEnv x u (f x u n),λd m=>t.tEnv d _ (S d m),λ_=>by rw[N];exact t.tBase⟩⟩⟩
     unfold aIj at h;split at h
     ·rename_i Z;have key:∀T:Tr,(∀t v,dB t env=some v->dB t T.E=some v)->dB d T.E=some (.bool Z):=λT I=>I d _ hv;split at h
      ·exact run (λT I=>.inr ⟨g,_,d,J,hd,key T I⟩) h
      ·exact run (λT I=>.inr ⟨g,_,d,J,hd,key T I⟩) h
      ·rename_i ag ah;have ac:Z=!b:=by
        cases Z<;>cases b<;>first|rfl|exact absurd rfl (ag rfl)|exact absurd rfl (ah rfl)
       subst ac;exact skip (λT I=>⟨g,b,d,J,hd,.inl (key T I)⟩) h
     ·rename_i ll;exact skip (λT I=>⟨g,b,d,J,hd,.inr ⟨ll,I d _ hv⟩⟩) h
     ·exact absurd h.symm hb
end
section
variable{e:FuncId->Option Fun}{Ed:Nat->Nat->Prop}{ops:Array Oper}{sb:Nat->Nat->Bool}{fr:F}{keep:Nat->Bool}{G N:Nat}{Df:List Deferred}
def Edge(ops:Array Oper)(j i:Nat):Prop:=∃o e,ops[i]?=some o/\e∈o.after/\E! .any e=true/\e.on=j
inductive Bef (Ed:Nat->Nat->Prop):Nat->Nat->Prop where
 |one {j i:Nat}:Ed j i->Bef Ed j i
 |step {k j i:Nat}:Bef Ed k j->Ed j i->Bef Ed k i
def Down(Ed:Nat->Nat->Prop)(L:Array Bool):Prop:=∀i j,Ed j i->L.getD i false=true->L.getD j false=true
def Down.bef{L:Array Bool}(hd:Down Ed L){j i:Nat}(h:Bef Ed j i):L.getD i false=true->L.getD j false=true:=by
 induction h with
 |one h=>exact hd _ _ h
 |step _ h b=>exact λhi=>b (hd _ _ h hi)
structure Ready (ops:Array Oper) (Ed:Nat->Nat->Prop) (L:Array Bool) (i:Nat):Prop where
 lt:i<ops.size
 no:L.getD i false=false
 edge:∀j,Ed j i->L.getD j false=true
def aaK{L:Array Bool}(l:L.size=ops.size){i:Nat}(h:i∈k! .any ops L):Ready ops (Edge ops) L i:=by
 simp only[k!,p!,F!,o!,B!]at h;obtain⟨d,c,b⟩:=h;have hi:i<L.size:=by omega
 refine⟨d,?_,?_⟩
 ·simp[q!,hi]at c⊢;exact c
 ·rintro j ⟨o,e,k,g,hb,rfl⟩;rw[k]at b;simp only[z!,w!,v!]at b;have:=b e g;simpa[hb]using this
def au2{L:Array Bool}(h:L.size=ops.size){i:Nat}(hi:i<ops.size)(b:L.getD i false=false)(d:∀j,Edge ops j i->L.getD j false=true):i∈k! .any ops L:=by
 simp only[k!,p!,F!,o!,B!];have c:i<L.size:=by omega
 refine⟨hi,by simp[q!,c]at b⊢;exact b,?_⟩;rw[j! hi];simp only[z!,w!,v!];intro x g;by_cases hb:E! .any x=true
 ·rw[d x.on ⟨_,x,j! hi,g,hb,rfl⟩];simp
 ·simp[hb]
def Ready.bef{L:Array Bool}{i:Nat}(h:Ready ops Ed L i)(hd:Down Ed L){j:Nat}(hj:Bef Ed j i):L.getD j false=true:=by
 cases hj with
 |one b=>exact h.edge _ b
 |step hb b=>exact hd.bef hb (h.edge _ b)
def Ready.TR{L:Array Bool}{i:Nat}(h:Ready ops Ed L i)(hd:Down Ed L){j:Nat}(hj:Bef Ed i j):L.getD j false=false:=by
 cases hl:L.getD j false with
 |false=>rfl
 |true=>have:=hd.bef hj hl;rw[h.no]at this;cases this
structure Static (ops:Array Oper) (Ed:Nat->Nat->Prop) (sb:Nat->Nat->Bool) (G N:Nat) (plan:Plan):Prop where
 cover:∀i,i<ops.size->∃c j,(i,c,j)∈phased 0 plan
 nodup:(plan.map (·.1)).Nodup
 heavyAt:∀j,j<bG plan->∃i,(i,.heavy,j)∈phased 0 plan/\i<ops.size
 chain:∀i j i' j',(i,.heavy,j)∈phased 0 plan->(i',.heavy,j')∈phased 0 plan->j<j'->Bef Ed i i'
 same:∀i i' j,(i,.heavy,j)∈phased 0 plan->(i',.heavy,j)∈phased 0 plan->i=i'
 alloc:∀i j i' j',(i,.alloc,j)∈phased 0 plan->(i',.heavy,j')∈phased 0 plan->j<=j'->Bef Ed i i'
 readU:∀i n j i' j',(i,.read n,j)∈phased 0 plan->(i',.heavy,j')∈phased 0 plan->j<=j'->Bef Ed i i'
 ahZ:∀i n j i' j',(i,.read n,j)∈phased 0 plan->(i',.heavy,j')∈phased 0 plan->j'+n<j->Bef Ed i' i
 ownU:∀i a j i' j',(i,.own a,j)∈phased 0 plan->(i',.heavy,j')∈phased 0 plan->j<=j'->Bef Ed i i'
 ownA:∀i a j,(i,.own a,j)∈phased 0 plan->(a,.alloc,j)∈phased 0 plan/\Bef Ed a i/\∃oa o t,ops[a]?=some oa/\oa.dst=some t/\ops[i]?=some o/\o.op.operands.toList= [.tmp t]/\IX ops sb i t=true
 insU:∀i a j i' j',(i,.ins a,j)∈phased 0 plan->(i',.heavy,j')∈phased 0 plan->j<=j'->Bef Ed i i'
 insA:∀i a j,(i,.ins a,j)∈phased 0 plan->(a,.alloc,j)∈phased 0 plan/\Bef Ed a i/\∃oa o t rest,ops[a]?=some oa/\oa.dst=some t/\ops[i]?=some o/\o.op.operands.toList=.tmp t::rest/\IX ops sb i t=true
 guard:∀i o g b,ops[i]?=some o->o.guard=some (g,b)->Bef Ed g i
 dsts:∀(i i':Nat) (o o':Oper) (t:Nat),ops[i]?=some o->ops[i']?=some o'->o.dst=some t->o'.dst=some t->i=i'
 srcT:∀i t,i<ops.size->IX ops sb i t=true->∃i' o',ops[i']?=some o'/\o'.dst=some t/\Bef Ed i' i
 srcF:∀i o t,ops[i]?=some o-> .tmp t∈o.op.operands.toList->IX ops sb i t=false->∀i' o',ops[i']?=some o'->o'.dst=some t->i=i'\/Bef Ed i i'
 oper:∀o∈ops.toList,qL G N o=true
def jR{i:Nat}{c k:Cls}{j j':Nat}:∀{j₀:Nat} {l:Plan},(l.map (·.1)).Nodup->(i,c,j)∈phased j₀ l->(i,k,j')∈phased j₀ l->c=k/\j=j'
 |j₀,(i',m)::l,hn,h,h'=>by
  have b:=(g!.1 (by simpa using hn:(i'::l.map (·.1)).Nodup))
  rcases b!.1 h with d|d<;>rcases b!.1 h' with g|g
  ·cases d;cases g;exact⟨rfl,rfl⟩
  ·cases d;exact absurd (xA (l:=l) g) b.1
  ·cases g;exact absurd (xA (l:=l) d) b.1
  ·exact jR b.2 d g
def sK{i:Nat}{c:Cls}{j:Nat}:∀{j₀:Nat} {l:Plan},(i,c,j)∈phased j₀ l->j<=j₀+bG l/\(c=.heavy->j<j₀+bG l)
 |j₀,(i',b)::l,h=>by
  rcases b!.1 h with h|h
  ·cases h;cases c<;>simp[bG]
  ·have:=sK h;cases b<;>simp only[bG]at this⊢<;>(refine⟨by omega,λd=>?_⟩;have:=this.2 d;omega)
structure Inv (T:Tr) (ops:Array Oper) (Ed:Nat->Nat->Prop) (plan:Plan) (keep:Nat->Bool) (fr:F) (G N:Nat) (Df:List Deferred) (M₀:Mp) (h₀:Hp) (w₀:World) (L:Array Bool) (M:Mp) (f:Hp) (j:Nat) (a:Act) (w:World):Prop where
 lsize:L.size=ops.size
 down:Down Ed L
 jle:j<=bG plan
 ph:∀i j',(i,.heavy,j')∈phased 0 plan->(L.getD i false=true↔j'<j)
 rel:Rel G M f w
 nx:f.next=(T.Bs j).next
 f1:∀i j' p ob,(i,j',p,ob)∈T.A->L.getD i false=true->j<=j'->f.get p=some (MW (ent T.I (λi=>L.getD i false) j' p) ob)
 f2:∀x,(∀i j' ob,(i,j',x,ob)∈T.A->L.getD i false=true->¬j<=j')->f.get x=(T.Bs j).get x
 f3:∀i j' p ob,(i,j',p,ob)∈T.A->j<=j'->(T.Bs j).get p=none/\p.nat<(T.Bs j).next.nat
 un:∀i j' p ob,(i,j',p,ob)∈T.A->L.getD i false=false->M p=none
 e1:∀i o d v,L.getD i false=true->ops[i]?=some o->o.dst=some d->dB d T.E=some v->Rp M v (a.tmps.getD d undef)
 e2:∀t v,(∀i o,L.getD i false=true->ops[i]?=some o->o.dst≠some t)->fr.get (Pos.of t)=some v->keep t=true/\Rp M v (a.tmps.getD t undef)
 size:a.tmps.size=N
 plain:a.defers=Df
 ext:Ext M₀ h₀ w₀ M f w
def fJ(L:Array Bool){i:Nat}(hi:i<L.size)(k:Nat):(L.setIfInBounds i true).getD k false=if k=i then true else L.getD k false:=by
 rw[e!,e!];by_cases e:k=i
 ·subst e;rw[if_pos rfl,Array.getElem?_setIfInBounds_self_of_lt hi];rfl
 ·rw[if_neg e,Array.getElem?_setIfInBounds_ne (Ne.symm e)]
variable{T:Tr}{plan:Plan}{M₀ M:Mp}{h₀ f:Hp}{w₀ w:World}{L:Array Bool}{j:Nat}{a:Act}{i:Nat}
def Inv.aIK(I:Inv T ops Ed plan keep fr G N Df M₀ h₀ w₀ L M f j a w)(S:Static ops Ed sb G N plan)(R:Ready ops Ed L i){j':Nat}(d:(i,.heavy,j')∈phased 0 plan):j'=j:=by
 have k:¬j'<j:=λh=>by have:=(I.ph i j' d).2 h;rw[R.no]at this;cases this
 rcases d! j j' with g|g
 ·have c:j<bG plan:=by have:=(sK d).2 rfl;omega
  obtain⟨i2,b,_⟩:=S.heavyAt j c;have:=R.bef I.down (S.chain i2 j i j' b d g);have:=(I.ph i2 j b).1 this;omega
 ·omega
def Inv.aIN(I:Inv T ops Ed plan keep fr G N Df M₀ h₀ w₀ L M f j a w)(S:Static ops Ed sb G N plan)(R:Ready ops Ed L i){j':Nat}(g:(i,.alloc,j')∈phased 0 plan):j<=j':=by
 rcases d! j' j with h|h
 ·have c:j'<bG plan:=by have:=I.jle;omega
  obtain⟨i2,b,_⟩:=S.heavyAt j' c;have d:=(I.ph i2 j' b).2 h;have:=R.TR I.down (S.alloc i j' i2 j' g b (c! _));rw[d]at this;cases this
 ·exact h
def Inv.aKH(I:Inv T ops Ed plan keep fr G N Df M₀ h₀ w₀ L M f j a w)(S:Static ops Ed sb G N plan)(R:Ready ops Ed L i){n j':Nat}(d:(i,.read n,j')∈phased 0 plan):j<=j'/\j'<=j+n:=by
 constructor
 ·rcases d! j' j with h|h
  ·have c:j'<bG plan:=by have:=I.jle;omega
   obtain⟨i2,b,_⟩:=S.heavyAt j' c;have g:=(I.ph i2 j' b).2 h;have:=R.TR I.down (S.readU i n j' i2 j' d b (c! _));rw[g]at this;cases this
  ·exact h
 ·rcases d! (j+n) j' with h|h
  ·have c:j<bG plan:=by have:=(sK d).1;omega
   obtain⟨i2,b,_⟩:=S.heavyAt j c;have:=R.bef I.down (S.ahZ i n j' i2 j d b h);have:=(I.ph i2 j b).1 this;omega
  ·exact h
def Inv.aO2(I:Inv T ops Ed plan keep fr G N Df M₀ h₀ w₀ L M f j a w)(S:Static ops Ed sb G N plan)(R:Ready ops Ed L i){x j':Nat}(g:(i,.own x,j')∈phased 0 plan):j<=j':=by
 rcases d! j' j with h|h
 ·have c:j'<bG plan:=by have:=I.jle;omega
  obtain⟨i2,b,_⟩:=S.heavyAt j' c;have d:=(I.ph i2 j' b).2 h;have:=R.TR I.down (S.ownU i x j' i2 j' g b (c! _));rw[d]at this;cases this
 ·exact h
def Inv.aE5(I:Inv T ops Ed plan keep fr G N Df M₀ h₀ w₀ L M f j a w)(S:Static ops Ed sb G N plan)(R:Ready ops Ed L i){x j':Nat}(g:(i,.ins x,j')∈phased 0 plan):j<=j':=by
 rcases d! j' j with h|h
 ·have c:j'<bG plan:=by have:=I.jle;omega
  obtain⟨i2,b,_⟩:=S.heavyAt j' c;have d:=(I.ph i2 j' b).2 h;have:=R.TR I.down (S.insU i x j' i2 j' g b (c! _));rw[d]at this;cases this
 ·exact h
def Inv.operand(I:Inv T ops Ed plan keep fr G N Df M₀ h₀ w₀ L M f j a w)(S:Static ops Ed sb G N plan)(R:Ready ops Ed L i){o:Oper}(l:ops[i]?=some o){x:Operand}(m:x∈o.op.operands.toList){v:V}(h:Src ops sb fr T.E i x v):Rp M v (a.eval x):=by
 cases x with
 |tmp t=>
  rcases h with⟨hb,k⟩|⟨hb,k⟩
  ·obtain⟨i',o',d,hd,b⟩:=S.srcT i t R.lt hb;exact I.e1 i' o' t v (R.bef I.down b) d hd k
  ·refine(I.e2 t v (λi' o' hl d hd=>?_) k).2;rcases S.srcF i o t l m hb i' o' d hd with rfl|b
   ·rw[R.no]at hl;cases hl
   ·have:=R.TR I.down b;rw[hl]at this;cases this
 |const c=>exact UL h M
 |global g=>
  cases h;have q:g<G:=aiU (S.oper o (by have:=l! l;simpa using this)) _ m g rfl;obtain⟨n,p⟩:=I.rel.gl g q;exact yE p 0
 |func f=>cases h;exact⟨rfl,.func _,[],[],rfl,⟨rfl,rfl⟩,rfl,rfl,rfl⟩
def Inv.operands(I:Inv T ops Ed plan keep fr G N Df M₀ h₀ w₀ L M f j a w)(S:Static ops Ed sb G N plan)(R:Ready ops Ed L i){o:Oper}(b:ops[i]?=some o):∀{l:List Operand} {vs:List V},(∀x∈l,x∈o.op.operands.toList)->UQ ops sb fr T.E i l vs->cO M vs (l.map a.eval)
 | [],vs,_,h=>by cases h;rfl
 |x::l,_,hl,⟨v,k,e,c,d⟩=>by
  subst e;exact⟨_,_,I.operand S R b (hl x (by simp)) c,I.operands S R b (λy g=>hl y (by simp[g])) d,rfl⟩
def Inv.aDB(I:Inv T ops Ed plan keep fr G N Df M₀ h₀ w₀ L M f j a w)(S:Static ops Ed sb G N plan)(R:Ready ops Ed L i){o:Oper}(u:ops[i]?=some o){M':Mp}(r:M.le M'){v:V}{c:Value}(B:Rp M' v c)(hd:∀d,o.dst=some d->dB d T.E=some v):
  (∀i' o' d m,(L.setIfInBounds i true).getD i' false=true->ops[i']?=some o'->o'.dst=some d->dB d T.E=some m->Rp M' m ((a.put o.dst c).tmps.getD d undef))/\
  (∀t m,(∀i' o',(L.setIfInBounds i true).getD i' false=true->ops[i']?=some o'->o'.dst≠some t)->fr.get (Pos.of t)=some m->keep t=true/\Rp M' m ((a.put o.dst c).tmps.getD t undef))/\
  (a.put o.dst c).tmps.size=N/\(a.put o.dst c).defers=Df:=by
 have p:i<L.size:=by rw[I.lsize];exact R.lt
 have y:=S.oper o (by have:=l! u;simpa using this);have n:∀d,o.dst=some d->d<a.tmps.size:=λd hd=>by rw[I.size];exact IY y d hd
 refine⟨λi' o' d m hl g h l=>?_,λt m s l=>?_,?_,?_⟩
 ·rw[fJ L p]at hl;by_cases e:i'=i
  ·subst e;rw[u]at g;cases g;rw[h,MO (n d h),if_pos rfl];have:=hd d h;rw[l]at this;cases this;exact B
  ·rw[if_neg e]at hl;have old:=(I.e1 i' o' d m hl g h l).mono r;cases k:o.dst with
   |none=>exact old
   |some b=>
    have q:d≠b:=λx=>by subst x;exact e (S.dsts i' i o' o d g u h k)
    rw[MO (n b k),if_neg q];exact old
 ·have z:=I.e2 t m (λi' o' hl g=>s i' o' (by rw[fJ L p];split<;>first|rfl|exact hl) g) l;refine⟨z.1,?_⟩;have old:=z.2.mono r
  cases k:o.dst with
  |none=>exact old
  |some b=>
   have q:t≠b:=λx=>by subst x;exact s i o (by rw[fJ L p,if_pos rfl]) u k
   rw[MO (n b k),if_neg q];exact old
 ·cases o.dst<;>simp[Act.put,I.size]
 ·cases o.dst<;>exact I.plain
def Inv.lists(I:Inv T ops Ed plan keep fr G N Df M₀ h₀ w₀ L M f j a w)(R:Ready ops Ed L i):(L.setIfInBounds i true).size=ops.size/\Down Ed (L.setIfInBounds i true):=by
 have c:i<L.size:=by rw[I.lsize];exact R.lt
 refine⟨by simp[I.lsize],λk l b d=>?_⟩;rw[fJ L c]at d⊢;split
 ·rfl
 ·split at d
  ·rename_i e;subst e;exact R.edge l b
  ·exact I.down k l b d
def Inv.alL(I:Inv T ops Ed plan keep fr G N Df M₀ h₀ w₀ L M f j a w):∀x o,(T.Bs j).get x=some o->f.get x=some o:=by
 intro x o b;rw[I.f2 x (λi' j' ob c _ hj=>?_)]
 ·exact b
 ·have:=(I.f3 i' j' x ob c hj).1;rw[b]at this;cases this
def aAK{α:Type}{I:List (Nat×α)}(hn:(I.map (·.1)).Nodup){y z:Nat×α}(g:y∈I)(h:z∈I)(e:y.1=z.1):y=z:=by
 induction I with
 |nil=>cases g
 |cons x I k=>
  have c:=g!.1 (by simpa using hn:(x.1::I.map (·.1)).Nodup);rcases b!.1 g with d|d
  ·rcases b!.1 h with b|b
   ·rw[d,b]
   ·exact absurd (by rw[<-d,e];exact i! b) c.1
  ·rcases b!.1 h with b|b
   ·exact absurd (by rw[<-b,<-e];exact i! d) c.1
   ·exact k c.2 d b
structure Made (T:Tr) (ops:Array Oper) (Ed:Nat->Nat->Prop) (plan:Plan) (q:Pos):Prop where
 a1:∀i j p ob,(i,j,p,ob)∈T.A->q.nat<=p.nat/\(i,.alloc,j)∈phased 0 plan/\(T.Cs j).get p=some (MW (ent T.I (λ_=>true) j p) ob)/\Wanted ops T.E i
 a2:∀a a',a∈T.A->a'∈T.A->a.2.2.1=a'.2.2.1->a=a'
 a3:∀a a',a∈T.A->a'∈T.A->a.1=a'.1->a=a'
 ct:∀j,(∀x,(∀i ob,(i,j,x,ob)∉T.A)->(T.Cs j).get x=(T.Bs j).get x)/\(T.Cs j).next=(T.Bs j).next
 i1:∀i j p x y,(i,j,p,x,y)∈T.I->∃a,(i,.ins a,j)∈phased 0 plan/\(a,j,p,.map [])∈T.A/\Bef Ed a i/\Wanted ops T.E i
 i2:(T.I.map (·.1)).Nodup
 i4:∀i j p es,(i,j,p,.map es)∈T.A->iE es->iE (es++ent T.I (λ_=>true) j p)
def abh(c:∀j p x y,(i,j,p,x,y)∉T.I)(hi:i<L.size)(j:Nat)(p:Pos):ent T.I (λk=>(L.setIfInBounds i true).getD k false) j p=ent T.I (λk=>L.getD k false) j p:=
 Gu λy d _ _=>by
  have b:y.1≠i:=λe=>c y.2.1 y.2.2.1 y.2.2.2.1 y.2.2.2.2 (by rw[<-e];exact d);rw[fJ L hi,if_neg b]
def Inv.aAR(I:Inv T ops Ed plan keep fr G N Df M₀ h₀ w₀ L M f j a w)(A:Made T ops Ed plan h₀.next)(g:∀i' p ob,(i',j,p,ob)∈T.A->L.getD i' false=true)(c:∀i' p x y,(i',j,p,x,y)∈T.I->L.getD i' false=true):∀x o,(T.Cs j).get x=some o->f.get x=some o:=by
 intro x o l;by_cases h:∃i' ob,(i',j,x,ob)∈T.A
 ·obtain⟨i',ob,d⟩:=h;have:=(A.a1 _ _ _ _ d).2.2.1;rw[l]at this;cases this;rw[I.f1 _ _ _ _ d (g _ _ _ d) (c! _)];rw[Gu (b:=λ_=>true) (b':=λk=>L.getD k false) λy m hj _=>by
   obtain⟨i2,n,q,r,s⟩:=y;have hj:n=j:=hj;subst hj;exact(c _ _ _ _ m).symm]
 ·rw[(A.ct j).1 x (λi' ob d=>h ⟨i',ob,d⟩)]at l;exact I.alL x o l
def Inv.aEG{g:Hp}(n:∀x o,g.get x=some o->f.get x=some o)(m:g.next=f.next)(I:Inv T ops Ed plan keep fr G N Df M₀ h₀ w₀ L M f j a w)(S:Static ops Ed sb G N plan)(A:Made T ops Ed plan h₀.next)(R:Ready ops Ed L i){o:Oper}(H:ops[i]?=some o){c:Cls}{j':Nat}(J:(i,c,j')∈phased 0 plan)(D:c≠ .heavy)(B:∀b p ob,(i,b,p,ob)∉T.A)(C:∀j p x y,(i,j,p,x,y)∉T.I)
  {M':Mp} {w':World} (u:Rel G M' g w') (x:Ext M g w M' g w') {v:V} {t:Value} (K:Rp M' v t) (hd:∀d,o.dst=some d->dB d T.E=some v):
  Inv T ops Ed plan keep fr G N Df M₀ h₀ w₀ (L.setIfInBounds i true) M' f j (a.put o.dst t) w':=by
 have k:i<L.size:=by rw[I.lsize];exact R.lt
 obtain⟨l1,W⟩:=I.lists R;obtain⟨O,P,Q,U⟩:=I.aDB S R H x.le K hd;have fm:=I.rel.frame (f':=f) n m u x (λy Y r=>by
  cases hb:g.get y with
  |none=>exact .inr ⟨r,rfl⟩
  |some X=>have:=n y X hb;rw[r]at this;cases this;exact .inl rfl) m.symm
 have l:∀i' b p ob,(i',b,p,ob)∈T.A->i'≠i:=λi' b p ob h e=>by subst e;exact B _ _ _ h
 refine⟨l1,W,I.jle,λi' b h=>?_,fm.1,I.nx,λi' b p ob h hl hj=>?_,λy r=>?_,I.f3,λi' b p ob h hl=>?_,O,P,Q,U,I.ext.trans fm.2⟩
 ·have q:i'≠i:=λe=>by
   subst e;obtain⟨z,_⟩:=jR S.nodup J h;exact D z
  rw[fJ L k,if_neg q];exact I.ph i' b h
 ·rw[fJ L k,if_neg (l _ _ _ _ h)]at hl;rw[abh C k];exact I.f1 i' b p ob h hl hj
 ·exact I.f2 y λi' b ob h hl=>r i' b ob h (by rw[fJ L k,if_neg (l _ _ _ _ h)];exact hl)
 ·rw[fJ L k,if_neg (l _ _ _ _ h)]at hl;have hn:=I.un i' b p ob h hl;by_cases s:p.nat<g.next.nat
  ·exact x.none p s hn
  ·exact u.fresh p (by omega)
def Inv.still(I:Inv T ops Ed plan keep fr G N Df M₀ h₀ w₀ L M f j a w)(S:Static ops Ed sb G N plan)(A:Made T ops Ed plan h₀.next)(R:Ready ops Ed L i){o:Oper}(l:ops[i]?=some o){c:Cls}{j':Nat}(m:(i,c,j')∈phased 0 plan)(k:c≠ .heavy)(g:∀r p ob,(i,r,p,ob)∉T.A)(h:∀j p x y,(i,j,p,x,y)∉T.I)
  {M':Mp} {w':World} (n:Rel G M' (T.Bs j) w') (x:Ext M (T.Bs j) w M' (T.Bs j) w') {v:V} {b:Value} (q:Rp M' v b) (hd:∀d,o.dst=some d->dB d T.E=some v):
  Inv T ops Ed plan keep fr G N Df M₀ h₀ w₀ (L.setIfInBounds i true) M' f j (a.put o.dst b) w':=
 I.aEG I.alL I.nx.symm S A R l m k g h n x q hd
def Inv.make(I:Inv T ops Ed plan keep fr G N Df M₀ h₀ w₀ L M f j a w)(S:Static ops Ed sb G N plan)(A:Made T ops Ed plan h₀.next)(R:Ready ops Ed L i){o:Oper}(ho:ops[i]?=some o){j':Nat}(U:(i,.alloc,j')∈phased 0 plan)
  {ob:Ob} {p:Pos} (r:(i,j',p,ob)∈T.A) {w':World} {b:Obj} {n:Nat} (Y:w'.heap=w.heap.push b) (Q:w'.os=w.os) (ht:w'.tape=w.tape) (u:w'.output=w.output)
  (P:∀N:Mp,M.le N->ku N ⟨w.heap.size,0,n⟩ w' ob) {v:V} {W:Value} (hv:Rp (M.add p ⟨w.heap.size,0,n⟩) v W) (hd:∀d,o.dst=some d->dB d T.E=some v):
  Inv T ops Ed plan keep fr G N Df M₀ h₀ w₀ (L.setIfInBounds i true) (M.add p ⟨w.heap.size,0,n⟩) (f.put p (some ob)) j (a.put o.dst W) w':=by
 have g:i<L.size:=by rw[I.lsize];exact R.lt
 obtain⟨l1,l2⟩:=I.lists R;have hj:=I.aIN S R U;have J:M p=none:=I.un _ _ _ _ r R.no;have O:=(I.f3 _ _ _ _ r hj).2;have K:=(A.a1 _ _ _ _ r).1;obtain⟨C,D,g3,g4⟩:=I.aDB S R ho (Mp.UE J _) hv hd;have one:∀i' k l c,(i',k,l,c)∈T.A->l=p->i'=i/\c=ob:=λi' k l c h e=>by
  have:=A.a2 _ _ h r e;cases this;exact⟨rfl,rfl⟩
 have Z:∀i' k l c,(i',k,l,c)∈T.A->i'=i->l=p/\c=ob:=λi' k l c h e=>by
  have:=A.a3 _ _ h r e;cases this;exact⟨rfl,rfl⟩
 have X:∀j p x y,(i,j,p,x,y)∉T.I:=λk l x1 y1 h=>by
  obtain⟨a1,H,_⟩:=A.i1 _ _ _ _ _ h;obtain⟨h2,_⟩:=jR S.nodup U H;cases h2
 refine⟨l1,l2,I.jle,λi' k h=>?_,I.rel.putAt J (by rw[I.nx];exact O) ob b n Y P,I.nx,λi' k l c h hl m=>?_,λy z=>?_,I.f3,λi' k l c h hl=>?_,C,D,g3,g4,I.ext.putAt J K ob b n Y Q ht u⟩
 ·have t:i'≠i:=λe=>by
   subst e;obtain⟨H,_⟩:=jR S.nodup U h;cases H
  rw[fJ L g,if_neg t];exact I.ph i' k h
 ·by_cases e:i'=i
  ·have e2:=A.a3 _ _ h r e;cases e2;rw[abh X g,Zf λy z m s=>?_,MV]
   ·exact Hp.dU _ _ _
   ·obtain⟨i2,j2,p2,x2,y2⟩:=y;have m:j2=j':=m;have s:p2=p:=s;subst m;subst s;obtain⟨a2,_,C,D,_⟩:=A.i1 _ _ _ _ _ z;have e3:=A.a2 _ _ C r rfl;cases e3;exact R.TR I.down D
  ·have q:l≠p:=λB=>e (one _ _ _ _ h B).1;rw[Hp.dA _ q];rw[fJ L g,if_neg e]at hl;rw[abh X g];exact I.f1 i' k l c h hl m
 ·have q:y≠p:=λe=>by
   subst e;exact z i j' ob r (by rw[fJ L g,if_pos rfl]) hj
  rw[Hp.dA _ q];refine I.f2 y λi' k c h hl=>z i' k c h ?_;rw[fJ L g];split
  ·rfl
  ·exact hl
 ·rw[fJ L g]at hl;split at hl
  ·cases hl
  ·rename_i e;have q:l≠p:=λB=>e (one _ _ _ _ h B).1;rw[Mp.gI _ q];exact I.un _ _ _ _ h hl
def Inv.turn(I:Inv T ops Ed plan keep fr G N Df M₀ h₀ w₀ L M f j a w)(S:Static ops Ed sb G N plan)(A:Made T ops Ed plan h₀.next)(R:Ready ops Ed L i){o:Oper}(ho:ops[i]?=some o)(D:(i,.heavy,j)∈phased 0 plan)
  {M':Mp} {w':World} (hr:Rel G M' (T.Bs (j+1)) w') (x:Ext M (T.Cs j) w M' (T.Bs (j+1)) w') {v:V} {X:Value} (hv:Rp M' v X) (hd:∀d,o.dst=some d->dB d T.E=some v):
  ∃f',Inv T ops Ed plan keep fr G N Df M₀ h₀ w₀ (L.setIfInBounds i true) M' f' (j+1) (a.put o.dst X) w':=by
 have n:i<L.size:=by rw[I.lsize];exact R.lt
 obtain⟨l1,l2⟩:=I.lists R;obtain⟨Y,Z,g3,g4⟩:=I.aDB S R ho x.le hv hd;have J:∀i' p ob,(i',j,p,ob)∈T.A->L.getD i' false=true:=λi' p ob h=>
  R.bef I.down (S.alloc i' j i j (A.a1 _ _ _ _ h).2.1 D (c! _))
 have z:∀i' p x y,(i',j,p,x,y)∈T.I->L.getD i' false=true:=λi' p x1 y1 h=>by
  obtain⟨a1,g,_⟩:=A.i1 _ _ _ _ _ h;exact R.bef I.down (S.insU i' a1 j i j g D (c! _))
 have hI:∀j p x y,(i,j,p,x,y)∉T.I:=λb p1 x1 y1 h=>by
  obtain⟨a1,g,_⟩:=A.i1 _ _ _ _ _ h;obtain⟨m,_⟩:=jR S.nodup D g;cases m
 have O:=I.aAR A J z;have U:(T.Cs j).next=f.next:=by rw[(A.ct j).2,I.nx]
 have u:∀i' b p ob,(i',b,p,ob)∈T.A->j+1<=b->(T.Cs j).get p=none:=λi' b p ob h hj=>by
  rw[(A.ct j).1 p (λi2 W m=>?_)]
  ·exact(I.f3 _ _ _ _ h (by omega)).1
  ·have:=A.a2 _ _ h m rfl;cases this;omega
 have C:∀i' b p ob,(i',b,p,ob)∈T.A->i'≠i:=λi' b p ob h e=>by
  subst e;obtain⟨g,_⟩:=jR S.nodup D (A.a1 _ _ _ _ h).2.1;cases g
 let c:List (Pos×Ob):=(T.A.filter λy=>L.getD y.1 false&&decide (j+1<=y.2.1)).map λy=>(y.2.2.1,MW (ent T.I (λk=>L.getD k false) y.2.1 y.2.2.1) y.2.2.2)
 have hit:∀p ob,(p,ob)∈c↔∃i' b l,(i',b,p,l)∈T.A/\L.getD i' false=true/\j+1<=b/\ob=MW (ent T.I (λk=>L.getD k false) b p) l:=by
  intro p ob;simp only[c,G!,p!,o!,decide_eq_true_eq];constructor
  ·rintro⟨⟨i',b,p1,l⟩,⟨g,m,q⟩,h4⟩;cases h4;exact⟨i',b,l,g,m,q,rfl⟩
  ·rintro⟨i',b,l,g,m,q,rfl⟩;exact⟨(i',b,p,l),⟨g,m,q⟩,rfl⟩
 let f':=Uu (T.Bs (j+1)) c
 have t:f'.next=(T.Bs (j+1)).next:=ayN _ _;have r:∀p ob,(p,ob)∈c->f'.get p=some ob:=λp ob h=>ap2 h λaa h'=>by
  obtain⟨i1,b,l,g,_,_,rfl⟩:=(hit _ _).1 h;obtain⟨i2,j2,W,m,_,_,rfl⟩:=(hit _ _).1 h';have:=A.a2 _ _ g m rfl;cases this;rfl
 have s:∀p,(∀ob,(p,ob)∉c)->f'.get p=(T.Bs (j+1)).get p:=λp h=>ap1 h;have fm:=I.rel.frame (f':=f') O U hr x (λy oy H=>by
  by_cases h:∃ob,(y,ob)∈c
  ·obtain⟨ob,h⟩:=h;rw[r y ob h]at H;cases H;obtain⟨i',b,l,g,m,q,rfl⟩:=(hit _ _).1 h;exact .inr ⟨I.f1 _ _ _ _ g m (by omega),u _ _ _ _ g q⟩
  ·rw[s y (λob Q=>h ⟨ob,Q⟩)]at H;exact .inl H) t
 refine⟨f',l1,l2,?_,λi' b h=>?_,fm.1,t,λi' b p ob h hl hj=>?_,λy H=>?_,λi' b p ob h hj=>?_,λi' b p ob h hl=>?_,Y,Z,g3,g4,I.ext.trans fm.2⟩
 ·have:=(sK D).2 rfl;omega
 ·rw[fJ L n];by_cases e:i'=i
  ·subst e;obtain⟨_,g⟩:=jR S.nodup D h;rw[if_pos rfl];subst g;exact⟨λ_=>by omega,λ_=>rfl⟩
  ·rw[if_neg e,I.ph i' b h];constructor
   ·intro g;omega
   ·intro g;rcases d! b j with m|m
    ·exact m
    ·exfalso;have B:b=j:=by omega
     subst B;exact e (S.same i' i b h D)
 ·rw[fJ L n,if_neg (C _ _ _ _ h)]at hl;rw[abh hI n];exact r p _ ((hit _ _).2 ⟨i',b,ob,h,hl,hj,rfl⟩)
 ·refine s y λob Q=>?_;obtain⟨i',b,l,g,m,q,rfl⟩:=(hit _ _).1 Q;exact H i' b l g (by rw[fJ L n,if_neg (C _ _ _ _ g)];exact m) q
 ·have g:=I.f3 _ _ _ _ h (show j<=b by omega);have hn:(T.Cs j).next=(T.Bs j).next:=(A.ct j).2;exact⟨x.old p (by rw[hn];exact g.2) (u _ _ _ _ h hj),by have:=x.next;rw[hn]at this;omega⟩
 ·rw[fJ L n,if_neg (C _ _ _ _ h)]at hl;have hn:=I.un i' b p ob h hl;have B:j<=b:=by
   rcases d! b j with m|m
   ·have P:b<bG plan:=by have:=I.jle;omega
    obtain⟨i2,K,_⟩:=S.heavyAt b P;have q:=(I.ph i2 b K).2 m;have:=I.down.bef (S.alloc i' b i2 b (A.a1 _ _ _ _ h).2.1 K (c! _)) q;rw[hl]at this;cases this
   ·exact m
  exact x.none p (by rw[(A.ct j).2];exact(I.f3 _ _ _ _ h B).2) hn
def Inv.ins(I:Inv T ops Ed plan keep fr G N Df M₀ h₀ w₀ L M f j a w)(S:Static ops Ed sb G N plan)(A:Made T ops Ed plan h₀.next)(R:Ready ops Ed L i){o:Oper}(ho:ops[i]?=some o){x:Nat}{j':Nat}(K:(i,.ins x,j')∈phased 0 plan)
  {b:Nat} {p:Pos} {k y:V} (C:(i,j',p,k,y)∈T.I) (Z:(b,j',p,.map [])∈T.A) {M':Mp} {w':World}
  (Q:Rel G M' (f.put p (some (.map (ent T.I (λk=>L.getD k false) j' p++ [(k,y)])))) w') (O:Ext M f w M' (f.put p (some (.map (ent T.I (λk=>L.getD k false) j' p++ [(k,y)])))) w') {P:Value} (hv:Rp M' V.undef P) (hd:∀d,o.dst=some d->dB d T.E=some V.undef):
  Inv T ops Ed plan keep fr G N Df M₀ h₀ w₀ (L.setIfInBounds i true) M' (f.put p (some (.map (ent T.I (λk=>(L.setIfInBounds i true).getD k false) j' p)))) j (a.put o.dst P) w':=by
 have c:i<L.size:=by rw[I.lsize];exact R.lt
 obtain⟨l1,l2⟩:=I.lists R;have hj:=I.aE5 S R K;obtain⟨U,W,X,Y⟩:=I.aDB S R ho O.le hv hd;have r:K! (ent T.I (λk=>L.getD k false) j' p++ [(k,y)]) (ent T.I (λk=>(L.setIfInBounds i true).getD k false) j' p):=
  (aqx (y:=(i,j',p,k,y)) A.i2 C R.no (by show(L.setIfInBounds i true).getD i false=true;rw[fJ L c,if_pos rfl]) λk hk=>by show(L.setIfInBounds i true).getD k false=_;rw[fJ L c,if_neg hk]).symm
 have u:∀n m l,(i,n,m,l)∉T.A:=λn m l h=>by
  obtain⟨t,_⟩:=jR S.nodup K (A.a1 _ _ _ _ h).2.1;cases t
 have v:∀n m,m≠p->ent T.I (λk=>(L.setIfInBounds i true).getD k false) n m=ent T.I (λk=>L.getD k false) n m:=λn m J=>Gu λz B _ q=>by
  by_cases e:z.1=i
  ·exfalso;have t:z=(i,j',p,k,y):=aAK A.i2 B C e;subst t;exact J q.symm
  ·rw[fJ L c,if_neg e]
 refine⟨l1,l2,I.jle,λi' n h=>?_,Q.perm r,I.nx,λi' n m l h hl D=>?_,λz B=>?_,I.f3,λi' n m l h hl=>?_,U,W,X,Y,I.ext.trans O.perm⟩
 ·have g:i'≠i:=λe=>by
   subst e;obtain⟨t,_⟩:=jR S.nodup K h;cases t
  rw[fJ L c,if_neg g];exact I.ph i' n h
 ·have g:i'≠i:=λe=>by subst e;exact u _ _ _ h
  rw[fJ L c,if_neg g]at hl;by_cases s:m=p
  ·subst s;have:=A.a2 _ _ h Z rfl;cases this;rw[Hp.dU];rfl
  ·rw[Hp.dA _ s,v n m s];exact I.f1 i' n m l h hl D
 ·by_cases q:z=p
  ·subst q;obtain⟨a2,_,k1,k2,_⟩:=A.i1 _ _ _ _ _ C;exact absurd hj (B a2 j' _ k1 (by
    have:=R.bef I.down k2;rw[fJ L c];split
    ·rfl
    ·exact this))
  ·rw[Hp.dA _ q];refine I.f2 z λi' n l h hl=>B i' n l h ?_;rw[fJ L c];split
   ·rfl
   ·exact hl
 ·have g:i'≠i:=λe=>by subst e;exact u _ _ _ h
  rw[fJ L c,if_neg g]at hl;have hn:=I.un i' n m l h hl;by_cases H:m.nat<f.next.nat
  ·exact O.none m H hn
  ·exact Q.fresh m (by show f.next.nat<=m.nat;omega)
end
section
variable{P:Program}{e:FuncId->Option Fun}{Ed:Nat->Nat->Prop}{ops:Array Oper}{sb:Nat->Nat->Bool}{fr:F}{keep:Nat->Bool}{G N:Nat}{Df:List Deferred}
variable{T:Tr}{plan:Plan}{M₀ M:Mp}{h₀ f:Hp}{w₀ w:World}{L:Array Bool}{j:Nat}{a:Act}{i:Nat}
def anM(c:Value):Option Bool:=match c with| .bool b=>some b|_=>none
def ae8{g d:Nat}{c:Value}(hd:(ops[g]?).bind (·.dst)=some d)(b:a.tmps.getD d undef=c):yielded ops a.tmps g=anM c:=by
 unfold yielded;rw[hd];simp only[Option.bind_some];rw[e!]at b;cases h:a.tmps[d]? with
 |none=>rw[h]at b;simp at b;subst b;rfl
 |some z=>rw[h]at b;simp at b;subst b;cases z<;>rfl
def Inv.alz(I:Inv T ops Ed plan keep fr G N Df M₀ h₀ w₀ L M f j a w)(S:Static ops Ed sb G N plan)(R:Ready ops Ed L i){o:Oper}(l:ops[i]?=some o){g d:Nat}{b:Bool}(k:o.guard=some (g,b))(hd:(ops[g]?).bind (·.dst)=some d){v:V}(m:dB d T.E=some v):
  Rp M v (a.tmps.getD d undef):=by
 have h:=R.bef I.down (S.guard i o g b l k);cases c:ops[g]? with
 |none=>rw[c]at hd;cases hd
 |some n=>
  rw[c]at hd;exact I.e1 g n d v h c hd m
def Inv.step(hE:∀f F,e f=some F->aG P G f F)(I:Inv T ops Ed plan keep fr G N Df M₀ h₀ w₀ L M f j a w)(S:Static ops Ed sb G N plan)(A:Made T ops Ed plan h₀.next)
  (ay:∀i c j,(i,c,j)∈phased 0 plan->jV P e ops sb fr T i c j) (R:Ready ops Ed L i) {Q:Exit->Act->World->Prop}:
  wpOp P ops Q i (λa' w'=>∃M' f' j',Inv T ops Ed plan keep fr G N Df M₀ h₀ w₀ (L.setIfInBounds i true) M' f' j' a' w') a w:=by
 obtain⟨c,j',C⟩:=S.cover i R.lt;obtain⟨o,H,al⟩:=ay i c j' C;unfold wpOp;simp only[H];have ac:c≠ .alloc->∀j1 p ob,(i,j1,p,ob)∉T.A:=λW j1 p ob h=>by
  obtain⟨O,_⟩:=jR S.nodup C (A.a1 _ _ _ _ h).2.1;exact W O
 have ad:(∀x,c≠ .ins x)->∀j p x y,(i,j,p,x,y)∉T.I:=λW j1 p1 x1 y1 h=>by
  obtain⟨a1,O,_⟩:=A.i1 _ _ _ _ _ h;obtain⟨h2,_⟩:=jR S.nodup C O;exact W _ h2
 have ae:Rel G M (T.Bs j) w:=I.rel.sub I.alL (by rw[I.nx];exact c! _);have af:c=.heavy->j'=j/\Rel G M (T.Cs j) w:=λW=>by
  subst W;have hj:=I.aIK S R C;subst hj;refine⟨rfl,I.rel.sub (I.aAR A (λi' p ob h=>R.bef I.down (S.alloc i' _ i _ (A.a1 _ _ _ _ h).2.1 C (c! _))) λi' p x y h=>?_) ?_⟩
  ·obtain⟨a1,O,_⟩:=A.i1 _ _ _ _ _ h;exact R.bef I.down (S.insU i' a1 _ i _ O C (c! _))
  rw[I.nx,(A.ct _).2];exact c! _
 rcases al with⟨J,vs,v,Y,hd,r⟩|⟨⟨g,b,d,J,s,m⟩,hd,hh⟩
 ·have hw:h! o (yielded ops a.tmps)=true:=by
   rcases J with J|⟨g,b,d,J,s,m⟩
   ·simp[h!,J]
   ·have:=(I.alz S R H J s m).bool;have hy:=ae8 s this;simp[h!,J,hy,anM]
  rw[if_pos hw];left;have K:=I.operands S R H (λ_ h=>h) Y;cases c with
  |pure=>
   obtain⟨a9,O,h2,q⟩:=r;have au:iQ P e o.op vs (T.Bs j)=.ok v (T.Bs j):=by
    have:=pure_ok (e:=e) vs a9 O (T.Bs j);rw[q]at this;exact this
   exact Gh (MG hE K ae au) λcv w' ⟨M',Z,z,hx⟩=>⟨M',f,j,I.still S A R H C (by simp) (ac (by simp)) (ad (by simp)) z hx Z hd⟩
  |read n=>
   obtain⟨ba,q⟩:=r;obtain⟨O,h2⟩:=I.aKH S R C;obtain⟨h',q⟩:=q j O h2;have ao:=aEN ba q;subst ao;exact Gh (MG hE K ae q) λcv w' ⟨M',Z,z,hx⟩=>⟨M',f,j,I.still S A R H C (by simp) (ac (by simp)) (ad (by simp)) z hx Z hd⟩
  |alloc=>
   obtain⟨ob,mk,p,ak,Z,hA⟩:=r;obtain⟨cv,w',bb,n,ax,bg,a6,ht,aw,a5,a2⟩:=ay7 (P:=P) (w:=w) K ak;unfold Oper.wp;rw[ax];refine⟨_,_,j,I.make S A R H C hA bg a6 ht aw a5 (v:=v) ?_ hd⟩;rw[Z];exact a2 _ _ (Mp.fF _ _ _)
  |own x=>
   obtain⟨u,p,O,rfl,ai,hu,q⟩:=r;obtain⟨a8,U,oa,o',t,a4,az,D,av,bc⟩:=S.ownA i x j' C;rw[H]at D;cases D;have aE:=R.bef I.down U;have hj:=I.aO2 S R C;obtain⟨bi,ah,aL⟩:=ay x .alloc j' a8;rw[a4]at ah;cases ah;rw[av]at Y;obtain⟨u',us,be,bd,-⟩:=Y;cases be;have aD:dB t T.E=some u:=by
    rcases bd with⟨_,hf⟩|⟨hn,_⟩
    ·exact hf
    ·rw[bc]at hn;cases hn
   rcases aL with⟨_,bj,v2,_,am,ob,mk,p2,ak,bf,hA⟩|⟨_,am,_⟩
   ·have e2:=am t az;rw[aD]at e2;cases e2;have a7:p2=p:=by
     rw[bf]at hu;exact(aIO ak hu).symm
    subst a7;have an:=I.f1 _ _ _ _ hA aE hj;have ap:=(A.a1 _ _ _ _ hA).2.2.1;obtain⟨cs,aj⟩:=aAi ai hu q;have X:=ave (g:=f) ai hu (by
     rw[an,ap];rw[ap]at aj;cases ob<;>first|rfl|cases aj) q
    exact Gh (MG hE K I.rel X) λcv w' ⟨M',Z,z,hx⟩=>⟨M',f,j,I.aEG (λ_ _ h=>h) rfl S A R H C (by simp) (ac (by simp)) (ad (by simp)) z hx Z hd⟩
   ·have e2:=am t az;rw[aD]at e2;cases e2;cases hu
  |ins x=>
   obtain⟨p,k,y,rfl,⟨t,mm,kk,vv,kt,et,d,q,a0,aM,hf⟩,rfl,hI⟩:=r;obtain⟨b,bh,hA,U,-⟩:=A.i1 _ _ _ _ _ hI;have hj:=I.aE5 S R C;have an:=I.f1 _ _ _ _ hA (R.bef I.down U) hj;have aq:i<L.size:=by rw[I.lsize];exact R.lt
   have aR:iE (ent T.I (λk=>L.getD k false) j' p++ [(k,y)]):=by
    have O:=A.i4 _ _ _ [] hA List.Pairwise.nil;refine iE.perm ?_ (O.sub (aLi T.I (λk=>(L.setIfInBounds i true).getD k false) j' p));exact aqx (y:=(i,j',p,k,y)) A.i2 hI R.no (by show(L.setIfInBounds i true).getD i false=true;rw[fJ L aq,if_pos rfl]) λk hk=>by show(L.setIfInBounds i true).getD k false=_;rw[fJ L aq,if_neg hk]
   have X:iQ P e o.op [.map p,k,y] f=.ok V.undef (f.put p (some (.map (ent T.I (λk=>L.getD k false) j' p++ [(k,y)])))):=by
    rw[q];show BQ P t (.map p) k y f=_;unfold BQ;rw[a0];simp only[aM,hf];unfold xC;simp only[an,MW,List.nil_append,au5 aR.last]
   exact Gh (MG hE K I.rel X) λcv w' ⟨M',Z,z,hx⟩=>⟨M',_,j,I.ins S A R H C hI hA z hx Z hd⟩
  |heavy=>
   obtain⟨hj,af⟩:=af rfl;subst hj;exact Gh (MG hE K af r) λcv w' ⟨M',Z,z,hx⟩=>by
    obtain⟨f',hI⟩:=I.turn S A R H C z hx Z hd;exact⟨M',f',_,hI⟩
 ·have hy:h! o (yielded ops a.tmps)=false:=by
   rcases m with m|⟨l,m⟩
   ·have:=ae8 s (I.alz S R H J s m).bool;simp only[h!,J,this,anM];cases b<;>rfl
   ·obtain⟨xs,_,W⟩:=(I.alz S R H J s m).tuple;have:=ae8 s W;simp only[h!,J,this,anM];cases b<;>rfl
  rw[hy];simp only[y!,if_false];have a3:∀j1 p ob,(i,j1,p,ob)∉T.A:=λj1 p ob h=>by
   obtain⟨o',D,hw⟩:=(A.a1 _ _ _ _ h).2.2.2;rw[H]at D;cases D;rcases hw with hw|⟨g',b',d',aa,ab,B⟩
   ·rw[J]at hw;cases hw
   ·rw[J]at aa;cases aa;rw[s]at ab;cases ab;rcases m with m|⟨l,m⟩
    ·rw[m]at B;cases b<;>cases B
    ·rw[m]at B;cases B
  have ar:∀j p x y,(i,j,p,x,y)∉T.I:=λj1 p1 x1 y1 h=>by
   obtain⟨_,_,_,_,o',D,hw⟩:=A.i1 _ _ _ _ _ h;rw[H]at D;cases D;rcases hw with hw|⟨g',b',d',aa,ab,B⟩
   ·rw[J]at hw;cases hw
   ·rw[J]at aa;cases aa;rw[s]at ab;cases ab;rcases m with m|⟨l,m⟩
    ·rw[m]at B;cases b<;>cases B
    ·rw[m]at B;cases B
  by_cases W:c=.heavy
  ·obtain⟨hj,ag⟩:=af W;subst hj;subst W;have hB:=hh rfl;obtain⟨f',hI⟩:=I.turn S A R H C (M':=M) (w':=w) (by rw[hB];exact ag) (by rw[hB];exact .refl ag) (pF M) hd;exact⟨M,f',_,hI⟩
  ·exact⟨M,f,j,I.still S A R H C W a3 ar ae (.refl ae) (pF M) hd⟩
def left(L:Array Bool):Nat:=L.toList.countP (λb=>!b)
def avT{L:Array Bool}{i:Nat}(hi:i<L.size)(c:L.getD i false=false):left (L.setIfInBounds i true)+1=left L:=by
 unfold left;rw[Array.toList_setIfInBounds,List.countP_set (by simpa using hi)];have d:L.toList[i]'(by simpa using hi)=false:=by
  rw[Array.getElem_toList];simpa[q!,hi]using c
 have g:0<L.toList.countP (λb=>!b):=by
  rw[List.countP_pos_iff];exact⟨false,by rw[<-d];exact List.getElem_mem _,rfl⟩
 rw[d];simp only[Bool.not_false,Bool.not_true,if_true,y!,if_false];omega
def ar7{L:Array Bool}(h:left L=0){i:Nat}(hi:i<L.size):L.getD i false=true:=by
 unfold left at h;rw[List.countP_eq_zero]at h;have:=h L[i] (by simp);simpa[q!,hi]using this
def any_ok(o:∀f F,e f=some F->aG P G f F)(back:∀j i,Edge ops j i->j<i)(S:Static ops (Edge ops) sb G N plan)(A:Made T ops (Edge ops) plan h₀.next)
  (h:∀i c j,(i,c,j)∈phased 0 plan->jV P e ops sb fr T i c j) {Q:Exit->Act->World->Prop}
  (g:∀L M f j a w,Inv T ops (Edge ops) plan keep fr G N Df M₀ h₀ w₀ L M f j a w->(∀i,i<ops.size->L.getD i false=true)->Q .normal a w):
  ∀(b:Nat) (L:Array Bool) (M:Mp) (f:Hp) (j:Nat) (a:Act) (w:World),left L<=b->Inv T ops (Edge ops) plan keep fr G N Df M₀ h₀ w₀ L M f j a w->wpAny P .any ops Q b L a w:=by
 intro b;induction b with
 |zero=>
  intro L M f j a w hl I;have d:∀i,i<ops.size->L.getD i false=true:=λi hi=>ar7 (by omega) (by rw[I.lsize];exact hi);refine⟨?_,g L M f j a w I d⟩;apply List.eq_nil_iff_forall_not_mem.2;intro i hi;have R:=aaK I.lsize hi
  have:=d i R.lt;rw[R.no]at this;cases this
 |succ b r=>
  intro L M f j a w hl I;refine⟨λp=>g L M f j a w I λi=>?_,λi hi=>?_⟩
  ·induction i using Nat.strongRecOn with
   |_ i l=>
    intro hi;cases q:L.getD i false with
    |true=>rfl
    |false=>
     exfalso;have:i∈k! .any ops L:=au2 I.lsize hi q λk m=>l k (back k i m) (by have:=back k i m;omega);rw[p]at this;cases this
  ·have R:=aaK I.lsize hi;refine wpOp_mono ?_ (I.step o S A h R (Q:=Q));rintro a' w' ⟨M',f',j',n⟩;have:=avT (by rw[I.lsize];exact R.lt) R.no
   exact r _ M' f' j' a' w' (by omega) n
def bump(n:Nat)(p:Pos):Pos:=Nat.rec (motive:=λ_=>Pos) p (λ_ b=>b.succ) n
def alK(n:Nat)(p:Pos):(bump n p).nat=p.nat+n:=by
 induction n with
 |zero=>rfl
 |succ n b=>show(bump n p).succ.nat=_;rw[Pos.fD,b];omega
def uS(keep:Nat->Bool)(E:Env)(k:F->Out):List Oper->F->Out
 | [],fr=>k fr
 |o::l,fr=>(match o.dst with
  |none=>uS keep E k l fr
  |some d=>(match keep d with
   |false=>uS keep E k l fr
   |true=>(match dB d E with|some v=>uS keep E k l (fr.set (some v) (Pos.of d))|none=>.bad)))
theorem aij{E:Env}{k:F->Out}{out:Out}(hb:out≠ .bad):∀{l:List Oper} {fr:F},uS keep E k l fr=out->
  ∃c,k c=out/\∀t v,c.get (Pos.of t)=some v->(∃o∈l,o.dst=some t/\keep t=true/\dB t E=some v)\/((∀o∈l,o.dst=some t->keep t=false)/\fr.get (Pos.of t)=some v)
 | [],fr,h=>⟨fr,h,λt v q=>.inr ⟨λo z=>(by cases z),q⟩⟩
 |o::l,fr,h=>by
  unfold uS at h;have m:(∀t,o.dst=some t->keep t=false)->uS keep E k l fr=out->∃c,k c=out/\∀t v,c.get (Pos.of t)=some v->(∃o'∈o::l,o'.dst=some t/\keep t=true/\dB t E=some v)\/((∀o'∈o::l,o'.dst=some t->keep t=false)/\fr.get (Pos.of t)=some v):=by
   intro y h;obtain⟨c,r,s⟩:=aij hb h;refine⟨c,r,λt v q=>?_⟩;rcases s t v q with⟨o',a,b⟩|⟨a,b⟩
   ·exact .inl ⟨o',by simp[a],b⟩
   ·refine .inr ⟨λo' g hd=>?_,b⟩;rcases b!.1 g with rfl|g
    ·exact y t hd
    ·exact a o' g hd
  split at h
  ·rename_i hd;exact m (λt n=>by rw[hd]at n;cases n) h
  ·rename_i d hd;split at h
   ·rename_i x;exact m (λt n=>by rw[hd]at n;cases n;exact x) h
   ·rename_i x;split at h
    ·rename_i v q;obtain⟨c,r,s⟩:=aij hb h;refine⟨c,r,λt u B=>?_⟩;rcases s t u B with⟨o',a,b⟩|⟨a,b⟩
     ·exact .inl ⟨o',by simp[a],b⟩
     ·by_cases n:t=d
      ·subst n;rw[T.oM]at b;cases b;exact .inl ⟨o,by simp,hd,x,q⟩
      ·rw[T.sU _ (λe=>n (Pos.afz e))]at b;refine .inr ⟨λo' g p=>?_,b⟩;rcases b!.1 g with rfl|g
       ·rw[hd]at p;cases p;exact absurd rfl n
       ·exact a o' g p
    ·exact absurd h.symm hb
def aDD(P:Program)(keep:Nat->Bool)(e:FuncId->Option Fun)(ops:Array Oper)(sb:Nat->Nat->Bool)(plan:Plan)(fr:F)(h:Hp):Out:=
 xP P e ops sb fr (λE h=>uS keep E (λfr=>.nor fr h) ops.toList fr) plan [] ⟨h.t,bump (jF plan) h.next⟩ ⟨h.t,bump (jF plan) h.next⟩ [] h.next
def aFv{op:Op}{vs:List V}{ob:Ob}{mk:Pos->V}(b:Au P op vs=some (ob,mk)){p i:Pos}(h:mk p=.map i):i=p/\ob=.map []:=by
 cases op<;>simp only[Au]at b<;>try (cases b;done)
 case alloc t=>
  split at b
  ·split at b
   ·cases b;cases h
   ·cases b
  ·cases b
 case box t x=>
  split at b
  ·unfold alN at b;split at b
   ·cases b;cases h
   ·cases b
  ·cases b
 case buildSlice t len ps=>
  split at b
  ·unfold auo at b
   (repeat' split at b)<;>first|(cases b;cases h;done)|(cases b;done)
  ·unfold Jd at b
   (repeat' split at b)<;>first|(unfold eH at b;split at b<;>first|(cases b;cases h;done)|(cases b;done))|(cases b;done)
 case makeSlice t l c=>
  unfold Ji at b
  (repeat' split at b)<;>first|(cases b;cases h;done)|(cases b;done)
 case makeMap t r=>
  (repeat' split at b)<;>first|(cases b;cases h;exact⟨rfl,rfl⟩)|(cases b;done)
 case convert s d x=>
  unfold OO at b
  (repeat' split at b)<;>first|(cases b;cases h;done)|(cases b;done)
def av1{T:Tr}(S:Static ops Ed sb G N plan)(C:∀i c j,(i,c,j)∈phased 0 plan->jV P e ops sb fr T i c j)(h2:(T.I.map (·.1)).Nodup)
  {i j:Nat} {p:Pos} {x y:V} (hI:(i,j,p,x,y)∈T.I) {a:Nat} (hp:(i,.ins a,j)∈phased 0 plan) (u:Wanted ops T.E i):
  (a,j,p,.map [])∈T.A/\Bef Ed a i:=by
 obtain⟨Y,z,oa,o,t,rest,X,D,ho,B,Z⟩:=S.insA i a j hp;refine⟨?_,z⟩;obtain⟨o',k,r⟩:=C i _ j hp;rw[ho]at k;cases k;rcases r with⟨_,vs,v,q,_,p',x',y',rfl,_,_,O⟩|⟨⟨g,b,d,hg,W,h⟩,_,_⟩
 ·have:=aAK h2 hI O rfl;cases this;rw[B]at q;obtain⟨v0,us,ac,aa,_⟩:=q;cases ac;have H:dB t T.E=some (.map p):=by
   rcases aa with⟨_,hf⟩|⟨hn,_⟩
   ·exact hf
   ·rw[Z]at hn;cases hn
  obtain⟨ad,n,U⟩:=C a .alloc j Y;rw[X]at n;cases n;rcases U with⟨_,ae,v2,_,s,ob,mk,p2,Q,ab,hA⟩|⟨_,s,_⟩
  ·have e2:=s t D;rw[H]at e2;cases e2;obtain⟨rfl,rfl⟩:=aFv Q ab.symm;exact hA
  ·have e2:=s t D;rw[H]at e2;cases e2
 ·exfalso;obtain⟨o',k,u⟩:=u;rw[ho]at k;cases k;rcases u with u|⟨g',b',d',J,K,m⟩
  ·rw[hg]at u;cases u
  ·rw[hg]at J;cases J;rw[W]at K;cases K;rcases h with h|⟨l,h⟩
   ·rw[h]at m;cases b<;>cases m
   ·rw[h]at m;cases m
def eU.draw(hm:P.follows .mixedOrders=true)(hE:∀f F,e f=some F->aG P G f F){id:Nat}(ae:∀o∈ops.toList,∀c,o.op≠ .defer c)(back:∀j i,Edge ops j i->j<i)(S:Static ops (Edge ops) sb G N plan):eU P keep G N (.region id ops true) (aDD P keep e ops sb plan):=by
 intro ro n Df fr h M a w D at_;refine am4 hm jq.aui ae ?_;generalize U:aDD P keep e ops sb plan fr h=out at D;obtain⟨T,t⟩:=uN D plan [] _ _ [] [] h.next S.nodup rfl U;have A:Made T ops (Edge ops) plan h.next:=by
  refine⟨λi j p ob l=>?_,t.a2,t.a3,λj=>?_,λi j p x y hI=>?_,t.i2,t.i4⟩
  ·obtain⟨u,r,H,g4,g5⟩:=t.a1 i j p ob l;exact⟨u,H,g4,g5⟩
  ·by_cases hj:j=0
   ·subst hj;have hB:T.Bs 0=_:=t.tBase;rw[hB];refine⟨λx q=>?_,t.cn⟩;have:=t.cs x q
    rw[show([]:List Hp).length=0 from rfl]at this;rw[this,Zf λy hy hj E=>?_]
    ·cases(Hp.get ⟨h.t,bump (jF plan) h.next⟩ x) with
     |none=>rfl
     |some o=>simp[MV]
    ·exfalso;obtain⟨i',j',p',x',y'⟩:=y;have hj:j'=0:=hj;have E:p'=x:=E;subst hj;subst E;obtain⟨u,_,_⟩:=t.i1 _ _ _ _ _ hy;rcases u with⟨_,e2,fs,e3⟩|⟨a,ob,u⟩
     ·rw[e2]at e3;cases e3
     ·exact q a ob u
   ·exact t.ct j (by simp;omega)
  ·obtain⟨_,⟨a,r⟩,H⟩:=t.i1 _ _ _ _ _ hI;obtain⟨k1,k2⟩:=av1 S t.steps t.i2 hI r H;exact⟨a,r,k1,k2,H⟩
 have m:T.Bs 0=⟨h.t,bump (jF plan) h.next⟩:=t.tBase;have C:(T.Bs 0).next.nat=h.next.nat+jF plan:=by rw[m];exact alK _ _
 have hw:({w with drawn:=w.drawn+1}:World).heap=w.heap:=rfl;have ai:Rel G M (T.Bs 0) {w with drawn:=w.drawn+1}:=by
  refine(at_.rel.heap hw).sub (λi o hi=>?_) (by rw[C];omega);rw[m]at hi;exact hi
 have aj:Ext M h w M (T.Bs 0) {w with drawn:=w.drawn+1}:=by
  have q:=Ext.refl at_.rel;refine⟨q.le,by rw[C];omega,rfl,rfl,rfl,c! _,λ_ _ _=>rfl,λi o L hi=>?_,λi _ hi=>?_,λi o L hi=>?_,q.none⟩
  ·rw[m]at hi;exact q.own i o L hi
  ·rw[m];exact hi
  ·rw[m]at hi;exact q.all i o L hi
 have s:∀i,(C! ops.size false).getD i false=false:=λi=>by
  rw[e!,Array.getElem?_replicate];split<;>rfl
 have I0:Inv T ops (Edge ops) plan keep fr G N Df M h w (C! ops.size false) M (T.Bs 0) 0 a {w with drawn:=w.drawn+1}:=by
  refine⟨by simp,λi k _ X=>?_,Nat.zero_le _,λi j' _=>?_,ai,rfl,λi j' p ob _ hl=>?_,λ_ _=>rfl,λi j' p ob l _=>?_,λi j' p ob l _=>?_,λi o d v hl=>?_,λt' v _ hv=>at_.fr t' v hv,at_.size,at_.plain,aj⟩
  ·rw[s]at X;cases X
  ·rw[s];simp
  ·rw[s]at hl;cases hl
  ·obtain⟨u,r,_⟩:=t.a1 i j' p ob l;refine⟨?_,by rw[C];exact r⟩;cases hg:(T.Bs 0).get p with
   |none=>rfl
   |some o'=>
    rw[m]at hg;obtain⟨L,hL,_⟩:=at_.rel.ob p o' hg;have:=at_.rel.lt_next hL;omega
  ·obtain⟨u,r,_⟩:=t.a1 i j' p ob l;exact at_.rel.fresh p u
  ·rw[s]at hl;cases hl
 refine any_ok hE back S A t.steps ?_ ops.size _ M (T.Bs 0) 0 a _ (by unfold left;exact Nat.le_trans List.countP_le_length (by simp)) I0;intro L M' f j a' w' I g;have z:=t.out
 simp only[List.length_nil,Nat.zero_add]at z;obtain⟨ak,X,Z⟩:=aij D z;have hj:j=bG plan:=by
  rcases d! j (bG plan) with W|W
  ·obtain⟨i2,ah,aa⟩:=S.heavyAt j W;have:=(I.ph i2 j ah).1 (g i2 aa);omega
  ·have:=I.jle;omega
 subst hj;have O:∀{i c j'},(i,c,j')∈phased 0 plan->i<ops.size:=λ{i c j'} hp=>by
  obtain⟨o,Q,_⟩:=t.steps i c j' hp;exact(Array.getElem?_eq_some_iff.1 Q).1
 have hC:∀x,(T.Cs (bG plan)).get x=f.get x:=λx=>by
  by_cases q:∃i ob,(i,bG plan,x,ob)∈T.A
  ·obtain⟨i,ob,l⟩:=q;obtain⟨_,r,H,_⟩:=A.a1 _ _ _ _ l;rw[H,I.f1 _ _ _ _ l (g i (O r)) (c! _)];rw[Gu (b:=λ_=>true) (b':=λk=>L.getD k false) λy hy _ _=>by
    obtain⟨i2,j2,p2,x2,y2⟩:=y;obtain⟨a2,k1,_⟩:=A.i1 _ _ _ _ _ hy;exact(g i2 (O k1)).symm]
  ·rw[(A.ct _).1 x (λi ob l=>q ⟨i,ob,l⟩)];refine(I.f2 x λi j' ob l _ al=>?_).symm;obtain⟨_,r,_⟩:=A.a1 _ _ _ _ l;have:=(sK r).1
   have ac:j'=bG plan:=by omega
   subst ac;exact q ⟨i,ob,l⟩
 have J:(T.Cs (bG plan)).next=f.next:=by rw[(A.ct _).2,I.nx]
 rw[<-X];refine⟨M',⟨I.rel.congr hC J,λt' v hv=>?_,I.size,I.plain⟩,I.ext.congr hC J⟩;rcases Z t' v hv with⟨o,Q,hd,ad,Y⟩|⟨af,B⟩
 ·obtain⟨i,hi,ab⟩:=List.getElem_of_mem Q;have K:i<ops.size:=by simpa using hi
  have ag:ops[i]?=some o:=by rw[j! K];rw[<-ab];simp
  exact⟨ad,I.e1 i o t' v (g i K) ag hd Y⟩
 ·refine I.e2 t' v (λi o _ Q hd=>?_) B;have W:=af o (by have:=l! Q;simpa using this) hd
  have h2:=(at_.fr t' v B).1;rw[W]at h2;cases h2
end
end Go.Vm
