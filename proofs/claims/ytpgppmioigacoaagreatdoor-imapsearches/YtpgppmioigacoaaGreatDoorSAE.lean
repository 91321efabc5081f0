/- Lemmas. No conditions. -/
import Derived.Test.YtpgppmioigacoaaGreatDoorSAD
set_option linter.all false
open List renaming mem_cons_of_mem→a!,mem_cons→b!,nodup_cons→e!,mem_map_of_mem→g!,filterMap_cons→h!,mem_filter→k!,getD_eq_getElem?_getD→n!,getElem?_eq_none→r!,mem_cons_self→v!,append_assoc→x!,append_nil→z!,mem_range→B!,mem_map→C!,Perm→G!
open Nat renaming lt_or_ge→c!,le_refl→d!,blt_eq→F!
open Go.Region renaming ready→i!,binds→A!
open Bool renaming and_eq_true→j!,not_eq_true'→y!
open Array renaming getD_eq_getD_getElem?→l!,getElem?_eq_getElem→o!,mem_of_getElem?→q!,all_eq_true'→t!,getD→D!
open List.Sublist renaming refl→p!,append→E!
open Option renaming getD_some→u!,map_some→w!
noncomputable section
namespace Go.Vm
section
variable{P:Program}{e:FuncId->Option Fun}{ops:Array Oper}{sb:Nat->Nat->Bool}{fr:F}
inductive Cls where
 |pure
 |read (cnt:Nat)
 |alloc
 |heavy
 |own (a:Nat)
 |ins (a:Nat)
abbrev Plan:=List (Nat×Cls)
def Ih(ops:Array Oper)(sb:Nat->Nat->Bool)(i t:Nat):Bool:=(List.range ops.size).any λi'=>(match ops[i']? with
 |some o'=>(match o'.dst with|some d=>(match Nat.beq d t with|true=>sb i' i|false=>false)|none=>false)
 |none=>false)
def akt(ops:Array Oper)(sb:Nat->Nat->Bool)(fr:F)(i:Nat)(env:Env)(x:Operand)(k:V->Out):Out:=match x with
 | .tmp t=>(match Ih ops sb i t with
  |true=>(match dA t env with|some v=>k v|none=>.bad)
  |false=>gt (Pos.of t) fr k)
 | .const c=>(match const c with|some v=>k v|none=>.bad)
 | .global g=>k (.ptr (Pos.of g) 0)
 | .func f=>k (.func (.func f) .nil .nil)
def zM(ops:Array Oper)(sb:Nat->Nat->Bool)(fr:F)(i:Nat)(env:Env):List Operand->(List V->Out)->Out
 | [],k=>k []
 |x::l,k=>akt ops sb fr i env x λv=>zM ops sb fr i env l λvs=>k (v::vs)
def vH(d:Option Nat)(v:V)(env:Env)(k:Env->Out):Out:=match d with
 |none=>k env
 |some d=>(match dA d env with|none=>k ((d,v)::env)|some _=>.bad)
def chk(m:Hp->R V)(v:V)(k:Out):Nat->List Hp->Out
 |0,_=>k
 |_+1,[]=>k
 |n+1,g::l=>(match m g with| .ok v' _=>(match eqV v v' with|true=>chk m v k n l|false=>.bad)| .bad=>.bad)
def ahc(P:Program)(op:Op):Bool:=match op with
 | .convert s d _=>(match P.underlying s,P.underlying d with
  |some (.slice _),some .string=>true
  |_,_=>false)
 |_=>false
def akm(v:V):Option Pos:=match v with| .slice i _ _ _=>some i|_=>none
def aGm(u:V)(q:Pos)(k:Out):Out:=match akm u with
 |some p=>(match Nat.blt p.nat q.nat with|true=>k|false=>.bad)
 |none=>.bad
def auL{op:Op}{u:V}{p:Pos}(f:ahc P op=true)(j:akm u=some p){h g h':Hp}{v:V}(t:g.get p=h.get p)(e0:iK P e op [u] h=.ok v h'):iK P e op [u] g=.ok v g:=by
 cases op<;>simp only[ahc]at f<;>try (cases f;done)
 rename_i s d x;show x9 P s d u g=.ok v g;have e1:x9 P s d u h=.ok v h':=e0;unfold x9 at e1⊢;split at f
 ·rename_i el m r;rw[m,r]at e1⊢;simp only[]at e1⊢;split at e1
  ·rename_i w;cases u<;>try (cases j;done)
   rename_i i o n c;cases j;have e2:dR h p (λ_ cs=>(match gJ n (fG o cs) with
    |some l=>(match tq l with|some s=>R.ok (V.str s) h|none=>.bad)
    |none=>.bad))=.ok v h':=e1
   show dR g p (λ_ cs=>(match gJ n (fG o cs) with
    |some l=>(match tq l with|some s=>R.ok (V.str s) g|none=>.bad)
    |none=>.bad))=.ok v g
   unfold dR at e2⊢;rw[t];cases b:h.get p with
   |none=>rw[b]at e2;cases e2
   |some ob=>
    rw[b]at e2;have fin:∀cs:List V,(match gJ n (fG o cs) with
      |some l=>(match tq l with|some s=>R.ok (V.str s) h|none=>.bad)
      |none=>.bad)=.ok v h'->(match gJ n (fG o cs) with
      |some l=>(match tq l with|some s=>R.ok (V.str s) g|none=>.bad)
      |none=>.bad)=R.ok v g:=by
     intro cs a;split at a
     ·rename_i l hl;split at a
      ·rename_i s y;cases a;rfl
      ·cases a
     ·cases a
    cases ob<;>first|exact fin _ e2|cases e2
  ·cases e1
 ·cases f
def azo{op:Op}{u:V}{p:Pos}(a:ahc P op=true)(b:akm u=some p){h h':Hp}{v:V}(e0:iK P e op [u] h=.ok v h'):∃cs,(h.get p).bind Ob.row=some cs:=by
 cases op<;>simp only[ahc]at a<;>try (cases a;done)
 rename_i s d x;have e1:x9 P s d u h=.ok v h':=e0;unfold x9 at e1;split at a
 ·rename_i el f g;rw[f,g]at e1;simp only[]at e1;split at e1
  ·cases u<;>try (cases b;done)
   rename_i i o n c;cases b;have e2:dR h p (λ_ cs=>(match gJ n (fG o cs) with
    |some l=>(match tq l with|some s=>R.ok (V.str s) h|none=>.bad)
    |none=>.bad))=.ok v h':=e1
   obtain⟨w,cs,j,_⟩:=gG e2;exact⟨_,j⟩
  ·cases e1
 ·cases a
def aHg{op:Op}{vs:List V}{ob:Ob}{mk:Pos->V}(e0:BF P op vs=some (ob,mk)){p i:Pos}(h:akm (mk p)=some i):i=p:=by
 have key:∀{m:Pos->V},(∀p,akm (m p)=none\/akm (m p)=some p)->mk=m->i=p:=λg a=>by
  rw[a]at h;rcases g p with b|b
  ·rw[b]at h;cases h
  ·rw[b]at h;cases h;rfl
 have slice:∀{l o:Nat} {c:Cap},mk=(λp=>.slice p o l c)->i=p:=λa=>key (λp=>.inr rfl) a;have ptr:∀{o:Nat},mk=(λp=>.ptr p o)->i=p:=λa=>key (λp=>.inl rfl) a;have f:∀{el:TypeId} {z:List V} {len:Nat} {qs:List (Nat×Nat×V)},eH el z len qs=some (ob,mk)->i=p:=λe1=>by
  unfold eH at e1;split at e1
  ·cases e1;exact slice rfl
  ·cases e1
 cases op<;>simp only[BF]at e0<;>try (cases e0;done)
 case alloc t=>
  split at e0
  ·split at e0
   ·cases e0;exact ptr rfl
   ·cases e0
  ·cases e0
 case box t x=>
  split at e0
  ·unfold akX at e0;split at e0
   ·cases e0;exact ptr rfl
   ·cases e0
  ·cases e0
 case buildSlice t len ps=>
  split at e0
  ·unfold atE at e0
   (repeat' split at e0)<;>first|(cases e0;exact slice rfl)|cases e0
  ·unfold Iw at e0
   (repeat' split at e0)<;>first|exact f e0|cases e0
 case makeSlice t l c=>
  unfold IE at e0
  (repeat' split at e0)<;>first|(cases e0;exact slice rfl)|cases e0
 case makeMap t r=>
  (repeat' split at e0)<;>first|(cases e0;exact key (λp=>.inl rfl) rfl)|cases e0
 case convert s d x=>
  unfold OE at e0
  (repeat' split at e0)<;>first|(cases e0;exact slice rfl)|cases e0
def apk(x:V)(es:List (V×V)):Bool:=List.rec (motive:=λ_=>Bool) true (λp _ a=>match iL x p.1 with|some b=>(match b with|true=>false|false=>a)|none=>false) es
def azC{x:V}:∀{es:List (V×V)},apk x es=true->∀(n:Nat) k v,es[n]?=some (k,v)->iL x k=some false
 | [],_,n,k,v,hn=>by simp at hn
 |(a,v0)::es,h,n,k,v,hn=>by
  have e:apk x ((a,v0)::es)=(match iL x a with|some b=>(match b with|true=>false|false=>apk x es)|none=>false):=rfl;rw[e]at h;split at h
  ·rename_i b hb;split at h
   ·cases h
   ·cases n with
    |zero=>simp at hn;obtain⟨rfl,rfl⟩:=hn;exact hb
    |succ n=>exact azC h n k v (by simpa using hn)
  ·cases h
def aGF(d:TypeDesc)(m x y:V)(base cur:Hp)(q:Pos)(k:Hp->Out):Out:=match mG d x with
 |true=>(match m with
  | .map p=>(match Nat.blt p.nat q.nat with
   |true=>(match base.get p with
    |none=>(match cur.get p with
     |some ob=>(match ob with
      | .map es=>(match apk x es with|true=>k (cur.put p (some (.map (es++ [(x,y)]))))|false=>.bad)
      |_=>.bad)
     |none=>.bad)
    |some _=>.bad)
   |false=>.bad)
  |_=>.bad)
 |false=>.bad
def akG(P:Program)(op:Op)(vs:List V)(base cur:Hp)(q:Pos)(k:Hp->Out):Out:=match op with
 | .insert t _ _ _=>(match P.underlying t with
  |some (.map a _)=>(match P.underlying a with|some d=>(match vs with| [m,x,y]=>aGF d m x y base cur q k|_=>.bad)|none=>.bad)
  |_=>.bad)
 |_=>.bad
def aIs(P:Program)(op:Op)(x:V):Prop:=∃t f kk vv a b d,op=.insert t f kk vv/\P.underlying t=some (.map a b)/\P.underlying a=some d/\mG d x=true
def azK{op:Op}{vs:List V}{base cur:Hp}{q:Pos}{k:Hp->Out}{out:Out}(hb:out≠ .bad)(h:akG P op vs base cur q k=out):
  ∃p x y es,vs= [.map p,x,y]/\aIs P op x/\p.nat<q.nat/\base.get p=none/\cur.get p=some (.map es)/\apk x es=true/\k (cur.put p (some (.map (es++ [(x,y)]))))=out:=by
 unfold akG at h;split at h
 ·rename_i t r kk vv;split at h
  ·rename_i o j f;split at h
   ·rename_i d hd;split at h
    ·rename_i m x y;unfold aGF at h;split at h
     ·rename_i n;split at h
      ·rename_i p;split at h
       ·rename_i g;split at h
        ·rename_i a;split at h
         ·rename_i ob b;split at h
          ·rename_i es;split at h
           ·rename_i hn;exact⟨p,x,y,es,rfl,⟨t,r,kk,vv,o,j,d,rfl,f,hd,n⟩,by simpa[F!]using g,a,b,hn,h⟩
           ·exact absurd h.symm hb
          ·exact absurd h.symm hb
         ·exact absurd h.symm hb
        ·exact absurd h.symm hb
       ·exact absurd h.symm hb
      ·exact absurd h.symm hb
     ·exact absurd h.symm hb
    ·exact absurd h.symm hb
   ·exact absurd h.symm hb
  ·exact absurd h.symm hb
 ·exact absurd h.symm hb
def sK(P:Program)(e:FuncId->Option Fun)(o:Oper)(c:Cls)(vs:List V)(base cur:Hp)(past:List Hp)(q:Pos)(k:V->Hp->Hp->List Hp->Pos->Out):Out:=match c with
 | .pure=>(match Ui P o.op with|true=>bnd (iK P e o.op vs) base (λv _=>k v base cur past q)|false=>.bad)
 | .read cnt=>(match amb P o.op with|true=>bnd (iK P e o.op vs) base (λv _=>chk (iK P e o.op vs) v (k v base cur past q) cnt past)|false=>.bad)
 | .alloc=>(match BF P o.op vs with|some (ob,mk)=>k (mk q) base (cur.put q (some ob)) past q.succ|none=>.bad)
 | .heavy=>bnd (iK P e o.op vs) cur (λv h=>k v h h (base::past) q)
 | .own _=>(match vs with
  | [u]=>(match ahc P o.op with|true=>aGm u q (bnd (iK P e o.op [u]) cur (λv _=>k v base cur past q))|false=>.bad)
  |_=>.bad)
 | .ins _=>akG P o.op vs base cur q λcur=>k V.undef base cur past q
def NW(c:Cls)(base cur:Hp)(past:List Hp)(q:Pos)(k:Hp->Hp->List Hp->Pos->Out):Out:=match c with
 | .heavy=>k cur cur (base::past) q
 | .alloc=>k base cur past q
 | .pure=>k base cur past q
 | .read _=>k base cur past q
 | .own _=>k base cur past q
 | .ins _=>k base cur past q
def aGI(v:V)(b:Bool)(yes no:Out):Out:=match v with
 | .bool c=>(match b,c with|true,true=>yes|false,false=>yes|_,_=>no)
 | .tuple _=>no
 |_=>.bad
def xZ(P:Program)(e:FuncId->Option Fun)(ops:Array Oper)(sb:Nat->Nat->Bool)(fr:F)(k:Env->Hp->Out):Plan->Env->Hp->Hp->List Hp->Pos->Out
 | [],env,_,cur,_,_=>k env cur
 |(i,c)::l,env,base,cur,past,q=>(match ops[i]? with
  |none=>.bad
  |some o=>(match o.guard with
   |none=>zM ops sb fr i env o.op.operands.toList λvs=>sK P e o c vs base cur past q λv base cur past q=>vH o.dst v env λenv=>xZ P e ops sb fr k l env base cur past q
   |some (g,b)=>(match (ops[g]?).bind (·.dst) with
    |none=>.bad
    |some d=>(match dA d env with
     |none=>.bad
     |some v=>aGI v b
      (zM ops sb fr i env o.op.operands.toList λvs=>sK P e o c vs base cur past q λv base cur past q=>vH o.dst v env λenv=>xZ P e ops sb fr k l env base cur past q)
      (NW c base cur past q λbase cur past q=>vH o.dst V.undef env λenv=>xZ P e ops sb fr k l env base cur past q)))))
def Src(ops:Array Oper)(sb:Nat->Nat->Bool)(fr:F)(E:Env)(i:Nat)(x:Operand)(v:V):Prop:=match x with
 | .tmp t=>(Ih ops sb i t=true/\dA t E=some v)\/(Ih ops sb i t=false/\fr.get (Pos.of t)=some v)
 | .const c=>const c=some v
 | .global g=>v=.ptr (Pos.of g) 0
 | .func f=>v=.func (.func f) .nil .nil
def UF(ops:Array Oper)(sb:Nat->Nat->Bool)(fr:F)(E:Env)(i:Nat):List Operand->List V->Prop
 | [],vs=>vs= []
 |x::l,vs=>∃v us,vs=v::us/\Src ops sb fr E i x v/\UF ops sb fr E i l us
def Wanted(ops:Array Oper)(E:Env)(i:Nat):Prop:=∃o,ops[i]?=some o/\(o.guard=none\/∃g b d,o.guard=some (g,b)/\(ops[g]?).bind (·.dst)=some d/\dA d E=some (.bool b))
structure Tr where
 E:Env
 Bs:Nat->Hp
 Cs:Nat->Hp
 A:List (Nat×Nat×Pos×Ob)
 I:List (Nat×Nat×Pos×V×V)
def ent(I:List (Nat×Nat×Pos×V×V))(b:Nat->Bool)(j:Nat)(p:Pos):List (V×V):=
 I.filterMap λy=>if y.2.1=j/\y.2.2.1=p/\b y.1=true then some y.2.2.2 else none
def Mc(es:List (V×V)):Ob->Ob
 | .map l=>.map (l++es)
 |o=>o
def LZ(o:Ob):Mc [] o=o:=by cases o<;>simp[Mc]
def Yu{I:List (Nat×Nat×Pos×V×V)}{b:Nat->Bool}{j:Nat}{p:Pos}(h:∀y∈I,y.2.1=j->y.2.2.1=p->b y.1=false):ent I b j p= []:=by
 unfold ent;rw[List.filterMap_eq_nil_iff];intro y g;rw[if_neg];rintro⟨d,f,a⟩;rw[h y g d f]at a;cases a
def F7{I:List (Nat×Nat×Pos×V×V)}{b b':Nat->Bool}{j:Nat}{p:Pos}(h:∀y∈I,y.2.1=j->y.2.2.1=p->b y.1=b' y.1):ent I b j p=ent I b' j p:=by
 induction I with
 |nil=>rfl
 |cons y I a=>
  have a:=a λz m=>h z (by simp[m]);have g:=h y (by simp);unfold ent at a⊢;rw[h!,h!,a];by_cases d:y.2.1=j
  ·by_cases f:y.2.2.1=p
   ·rw[g d f]
   ·simp[f]
  ·simp[d]
def LV(y:Nat×Nat×Pos×V×V)(I:List (Nat×Nat×Pos×V×V))(b:Nat->Bool)(j:Nat)(p:Pos):ent (y::I) b j p=(if y.2.1=j/\y.2.2.1=p/\b y.1=true then [y.2.2.2] else [])++ent I b j p:=by
 unfold ent;rw[h!];by_cases h:y.2.1=j/\y.2.2.1=p/\b y.1=true
 ·rw[if_pos h,if_pos h];rfl
 ·rw[if_neg h,if_neg h];rfl
def aJD(I:List (Nat×Nat×Pos×V×V))(b:Nat->Bool)(j:Nat)(p:Pos):List.Sublist (ent I b j p) (ent I (λ_=>true) j p):=by
 induction I with
 |nil=>exact p! _
 |cons y I a=>
  rw[LV,LV];refine E! ?_ a;by_cases h:y.2.1=j/\y.2.2.1=p/\b y.1=true
  ·rw[if_pos h,if_pos ⟨h.1,h.2.1,rfl⟩];exact p! _
  ·rw[if_neg h];exact List.nil_sublist _
def apC{y:Nat×Nat×Pos×V×V}{b b':Nat->Bool}:∀{I:List (Nat×Nat×Pos×V×V)},(I.map (·.1)).Nodup->y∈I->b y.1=false->b' y.1=true->(∀k,k≠y.1->b' k=b k)->
  G! (ent I b' y.2.1 y.2.2.1) (ent I b y.2.1 y.2.2.1++ [y.2.2.2])
 | [],_,d,_,_,_=>by cases d
 |z::I,hn,d,h0,f,hk=>by
  have a:=e!.1 (by simpa using hn:(z.1::I.map (·.1)).Nodup);rw[LV,LV];rcases b!.1 d with rfl|d
  ·rw[if_pos ⟨rfl,rfl,f⟩,if_neg (λh=>by rw[h0]at h;cases h.2.2)];rw[F7 (b:=b') (b':=b) (λw g _ _=>hk _ λe=>a.1 (by rw[<-e];exact g! g))];exact(List.perm_append_singleton _ _).symm
  ·have j:z.1≠y.1:=λe=>a.1 (by rw[e];exact g! d);rw[hk _ j,x!];exact(apC a.2 d h0 f hk).append_left _
def aQd(P:Program)(e:FuncId->Option Fun)(T:Tr)(i:Nat)(o:Oper)(j:Nat)(c:Cls)(vs:List V)(v:V):Prop:=match c with
 | .pure=>Ui P o.op=true/\∃h h',iK P e o.op vs h=.ok v h'
 | .read cnt=>amb P o.op=true/\∀j',j'<=j->j<=j'+cnt->∃h',iK P e o.op vs (T.Bs j')=.ok v h'
 | .alloc=>∃ob mk p,BF P o.op vs=some (ob,mk)/\v=mk p/\(i,j,p,ob)∈T.A
 | .heavy=>iK P e o.op vs (T.Cs j)=.ok v (T.Bs (j+1))
 | .own _=>∃u p h',vs= [u]/\ahc P o.op=true/\akm u=some p/\iK P e o.op [u] (T.Cs j)=.ok v h'
 | .ins _=>∃p x y,vs= [.map p,x,y]/\aIs P o.op x/\v=V.undef/\(i,j,p,x,y)∈T.I
def jP(P:Program)(e:FuncId->Option Fun)(ops:Array Oper)(sb:Nat->Nat->Bool)(fr:F)(T:Tr)(i:Nat)(c:Cls)(j:Nat):Prop:=
 ∃o,ops[i]?=some o/\
  (((o.guard=none\/∃g b d,o.guard=some (g,b)/\(ops[g]?).bind (·.dst)=some d/\dA d T.E=some (.bool b))/\
   ∃vs v,UF ops sb fr T.E i o.op.operands.toList vs/\(∀d,o.dst=some d->dA d T.E=some v)/\aQd P e T i o j c vs v)\/
  ((∃g b d,o.guard=some (g,b)/\(ops[g]?).bind (·.dst)=some d/\(dA d T.E=some (.bool (!b))\/∃l,dA d T.E=some (.tuple l)))/\
   (∀d,o.dst=some d->dA d T.E=some V.undef)/\(c=.heavy->T.Bs (j+1)=T.Cs j)))
def phased:Nat->Plan->List (Nat×Cls×Nat)
 |_,[]=> []
 |j,(i,c)::l=>(i,c,j)::phased (match c with| .heavy=>j+1|_=>j) l
def bH:Plan->Nat
 | []=>0
 |(_,c)::l=>(match c with| .heavy=>bH l+1|_=>bH l)
def jw:Plan->Nat
 | []=>0
 |(_,c)::l=>(match c with| .alloc=>jw l+1|_=>jw l)
def aq9{i:Nat}{c:Cls}{j:Nat}:∀{j₀:Nat} {l:Plan},(i,c,j)∈phased j₀ l->j₀<=j
 |j₀,(i',a)::l,h=>by
  rcases b!.1 h with h|h
  ·cases h;exact d! _
  ·have:=aq9 h;cases a<;>simp only[]at this<;>omega
def UF.mono{E b:Env}(d:∀t v,dA t E=some v->dA t b=some v){i:Nat}:∀{l:List Operand} {vs:List V},UF ops sb fr E i l vs->UF ops sb fr b i l vs
 | [],_,h=>h
 |x::l,_,⟨v,us,e,a,j⟩=>⟨v,us,e,by
   cases x with
   |tmp t=>exact a.imp (λh=>⟨h.1,d _ _ h.2⟩) id
   |const c=>exact a
   |global g=>exact a
   |func f=>exact a,UF.mono d j⟩
def auP{i:Nat}{env:Env}{out:Out}(hb:out≠ .bad):∀{l:List Operand} {k:List V->Out},zM ops sb fr i env l k=out->∃vs,k vs=out/\UF ops sb fr env i l vs
 | [],k,h=>⟨[],h,rfl⟩
 |x::l,k,h=>by
  unfold zM at h;have:∃v,zM ops sb fr i env l (λvs=>k (v::vs))=out/\Src ops sb fr env i x v:=by
   cases x with
   |tmp t=>
    simp only[akt]at h;split at h
    ·rename_i b;split at h
     ·rename_i v a;exact⟨v,h,.inl ⟨b,a⟩⟩
     ·exact absurd h.symm hb
    ·rename_i b;unfold gt at h;split at h
     ·rename_i v a;exact⟨v,h,.inr ⟨b,a⟩⟩
     ·exact absurd h.symm hb
   |const c=>
    simp only[akt]at h;split at h
    ·rename_i v a;exact⟨v,h,a⟩
    ·exact absurd h.symm hb
   |global g=>exact⟨_,h,rfl⟩
   |func f=>exact⟨_,h,rfl⟩
  obtain⟨v,d,j⟩:=this;obtain⟨vs,m,n⟩:=auP hb d;exact⟨v::vs,m,v,vs,rfl,j,n⟩
def F9{d:Option Nat}{v:V}{env:Env}{k:Env->Out}{out:Out}(hb:out≠ .bad)(h:vH d v env k=out):
  ∃B,k B=out/\(∀t u,dA t env=some u->dA t B=some u)/\∀x,d=some x->dA x B=some v:=by
 unfold vH at h;split at h
 ·exact⟨env,h,λ_ _ h=>h,λx a=>by cases a⟩
 ·rename_i d;split at h
  ·rename_i hn;refine⟨_,h,λt u ht=>?_,λx a=>?_⟩
   ·rw[jv];split
    ·rename_i e;subst e;rw[hn]at ht;cases ht
    ·exact ht
   ·cases a;rw[jv,if_pos rfl]
  ·exact absurd h.symm hb
def aEw{m:Hp->R V}{v:V}{k out:Out}(hb:out≠ .bad):∀{n:Nat} {l:List Hp},chk m v k n l=out->k=out/\∀r g,r<n->l[r]?=some g->∃h',m g=.ok v h'
 |0,_,h=>⟨by cases‹List Hp›<;>exact h,λr g o=>by omega⟩
 |n+1,[],h=>⟨h,λr g _ a=>by cases a⟩
 |n+1,g::l,h=>by
  unfold chk at h;split at h
  ·rename_i v' h' j;split at h
   ·rename_i p;obtain⟨d,f⟩:=aEw hb h;refine⟨d,λr b o a=>?_⟩;cases r with
    |zero=>cases a;rw[tX p];exact⟨_,j⟩
    |succ r=>exact f r b (by omega) a
   ·exact absurd h.symm hb
  ·exact absurd h.symm hb
structure Told (P:Program) (e:FuncId->Option Fun) (ops:Array Oper) (sb:Nat->Nat->Bool) (fr:F) (k:Env->Hp->Out) (l:Plan) (env:Env) (base cur:Hp) (past pc:List Hp) (q:Pos) (out:Out) (T:Tr):Prop where
 tEnv:∀t v,dA t env=some v->dA t T.E=some v
 tBase:T.Bs past.length=base
 tPast:∀r g,past[r]?=some g->T.Bs (past.length - 1 - r)=g
 tPc:∀r g,pc[r]?=some g->T.Cs (past.length - 1 - r)=g
 steps:∀i c j,(i,c,j)∈phased past.length l->jP P e ops sb fr T i c j
 a1:∀i j p ob,(i,j,p,ob)∈T.A->q.nat<=p.nat/\p.nat<q.nat+jw l/\(i,.alloc,j)∈phased past.length l/\(T.Cs j).get p=some (Mc (ent T.I (λ_=>true) j p) ob)/\Wanted ops T.E i
 a2:∀a a',a∈T.A->a'∈T.A->a.2.2.1=a'.2.2.1->a=a'
 a3:∀a a',a∈T.A->a'∈T.A->a.1=a'.1->a=a'
 cs:∀x,(∀i ob,(i,past.length,x,ob)∉T.A)->(T.Cs past.length).get x=(cur.get x).map (Mc (ent T.I (λ_=>true) past.length x))
 i1:∀i j p x y,(i,j,p,x,y)∈T.I->((j=past.length/\base.get p=none/\∃es,cur.get p=some (.map es))\/∃a ob,(a,j,p,ob)∈T.A)/\(∃a,(i,.ins a,j)∈phased past.length l)/\Wanted ops T.E i
 i2:(T.I.map (·.1)).Nodup
 i3:∀x es,(∀i ob,(i,past.length,x,ob)∉T.A)->cur.get x=some (.map es)->ig es->ig (es++ent T.I (λ_=>true) past.length x)
 i4:∀i j p es,(i,j,p,.map es)∈T.A->ig es->ig (es++ent T.I (λ_=>true) j p)
 cn:(T.Cs past.length).next=cur.next
 ct:∀j,past.length<j->(∀x,(∀i ob,(i,j,x,ob)∉T.A)->(T.Cs j).get x=(T.Bs j).get x)/\(T.Cs j).next=(T.Bs j).next
 out:k T.E (T.Cs (past.length+bH l))=out
variable{k:Env->Hp->Out}{l:Plan}{env B:Env}{base cur:Hp}{past pc:List Hp}{q:Pos}{out:Out}{T:Tr}{i:Nat}{c:Cls}
def Told.stay(t:Told P e ops sb fr k l B base cur past pc q out T)(s:∀t v,dA t env=some v->dA t B=some v)(m:c≠ .heavy)
  (r:jP P e ops sb fr T i c past.length):Told P e ops sb fr k ((i,c)::l) env base cur past pc q out T:=by
 have f:phased past.length ((i,c)::l)=(i,c,past.length)::phased past.length l:=by cases c<;>first|rfl|exact absurd rfl m
 have hh:bH ((i,c)::l)=bH l:=by cases c<;>first|rfl|exact absurd rfl m
 have u:jw l<=jw ((i,c)::l):=by cases c<;>simp[jw]
 refine⟨λx v h=>t.tEnv x v (s x v h),t.tBase,t.tPast,t.tPc,λi' n j' h=>?_,λi' j p ob h=>?_,t.a2,t.a3,t.cs,λi' j p x y h=>?_,t.i2,t.i3,t.i4,t.cn,t.ct,by rw[hh];exact t.out⟩
 ·rw[f]at h;rcases b!.1 h with h|h
  ·cases h;exact r
  ·exact t.steps i' n j' h
 ·obtain⟨b,g,d,o⟩:=t.a1 i' j p ob h;exact⟨b,by omega,by rw[f];exact a! _ d,o⟩
 ·obtain⟨b,⟨a,g⟩,d⟩:=t.i1 _ _ _ _ _ h;exact⟨b,⟨a,by rw[f];exact a! _ g⟩,d⟩
def jP.more{x:Nat×Nat×Pos×Ob}{i:Nat}{c:Cls}{j:Nat}(h:jP P e ops sb fr T i c j):jP P e ops sb fr {T with A:=x::T.A} i c j:=by
 obtain⟨o,r,h⟩:=h;refine⟨o,r,h.imp (λ⟨g,vs,v,m,n,f⟩=>⟨g,vs,v,m,n,?_⟩) id⟩;cases c with
 |pure=>exact f
 |read cnt=>exact f
 |heavy=>exact f
 |own a=>exact f
 |ins a=>exact f
 |alloc=>
  obtain⟨ob,mk,p,a,b,d⟩:=f;exact⟨ob,mk,p,a,b,a! _ d⟩
def jP.aPO{x:Nat×Nat×Pos×V×V}{i:Nat}{c:Cls}{j:Nat}(h:jP P e ops sb fr T i c j):jP P e ops sb fr {T with I:=x::T.I} i c j:=by
 obtain⟨o,r,h⟩:=h;refine⟨o,r,h.imp (λ⟨g,vs,v,m,n,f⟩=>⟨g,vs,v,m,n,?_⟩) id⟩;cases c with
 |pure=>exact f
 |read cnt=>exact f
 |heavy=>exact f
 |own a=>exact f
 |alloc=>exact f
 |ins a=>
  obtain⟨p,x,y,a,b,d,e⟩:=f;exact⟨p,x,y,a,b,d,a! _ e⟩
def Told.alloc{ob:Ob}(hi:∀c j,(i,c,j)∉phased past.length l)(t:Told P e ops sb fr k l B base (cur.put q (some ob)) past pc q.succ out T)(J:∀t v,dA t env=some v->dA t B=some v)
  (d:jP P e ops sb fr {T with A:=(i,past.length,q,ob)::T.A} i .alloc past.length) (N:Wanted ops T.E i):
  Told P e ops sb fr k ((i,.alloc)::l) env base cur past pc q out {T with A:=(i,past.length,q,ob)::T.A}:=by
 have Q:q.succ.nat=q.nat+1:=Pos.fA q;have m:∀i' j b,(i',j,q,b)∉T.A:=λi' j b h=>by
  have:=(t.a1 _ _ _ _ h).1;omega
 refine⟨λx v h=>t.tEnv x v (J x v h),t.tBase,t.tPast,t.tPc,λi' H j' h=>?_,λi' j p b h=>?_,λa a' z n g=>?_,λa a' z n g=>?_,λx s=>?_,λi' j p x y h=>?_,t.i2,λx es s L hk=>?_,λi' j p es h hk=>?_,t.cn,λj hj=>⟨λx s=>?_,(t.ct j hj).2⟩,t.out⟩
 ·rcases b!.1 h with h|h
  ·cases h;exact d
  ·exact(t.steps i' H j' h).more
 ·have K:jw ((i,.alloc)::l)=jw l+1:=rfl;rcases b!.1 h with h|h
  ·cases h;obtain⟨o,O,M⟩:=d;refine⟨d! _,by omega,v! ..,?_,N⟩;show(T.Cs past.length).get q=some _;rw[t.cs q (λi' b=>m i' _ b),Hp.dQ];rfl
  ·obtain⟨D,G,w,I⟩:=t.a1 i' j p b h;exact⟨by omega,by omega,a! _ w,I⟩
 ·rcases b!.1 z with d|d<;>rcases b!.1 n with f|f
  ·rw[d,f]
  ·rw[d]at g;exact absurd (show(a'.1,a'.2.1,q,a'.2.2.2)∈T.A by rw[show q=a'.2.2.1 from g];exact f) (m _ _ _)
  ·rw[f]at g;exact absurd (show(a.1,a.2.1,q,a.2.2.2)∈T.A by rw[show q=a.2.2.1 from g.symm];exact d) (m _ _ _)
  ·exact t.a2 a a' d f g
 ·rcases b!.1 z with d|d<;>rcases b!.1 n with f|f
  ·rw[d,f]
  ·rw[d]at g;have:=(t.a1 _ _ _ _ f).2.2.1;rw[<-show i=a'.1 from g]at this;exact absurd this (hi _ _)
  ·rw[f]at g;have:=(t.a1 _ _ _ _ d).2.2.1;rw[show a.1=i from g]at this;exact absurd this (hi _ _)
  ·exact t.a3 a a' d f g
 ·have r:x≠q:=λe=>by subst e;exact s i ob (by simp)
  show(T.Cs past.length).get x=_;rw[t.cs x (λi' b h=>s i' b (a! _ h)),Hp.dw _ r]
 ·obtain⟨D,⟨a,G⟩,w⟩:=t.i1 _ _ _ _ _ h;refine⟨?_,⟨a,a! _ G⟩,w⟩;rcases D with⟨e1,e2,es,C⟩|⟨a,b,e1⟩
  ·by_cases u:p=q
   ·subst u;exact .inr ⟨i,ob,by rw[e1];simp⟩
   ·rw[Hp.dw _ u]at C;exact .inl ⟨e1,e2,es,C⟩
  ·exact .inr ⟨a,b,a! _ e1⟩
 ·have r:x≠q:=λe=>by subst e;exact s i ob (by simp)
  exact t.i3 x es (λi' b h=>s i' b (a! _ h)) (by rw[Hp.dw _ r];exact L) hk
 ·rcases b!.1 h with h|h
  ·cases h;exact t.i3 _ es (λi' b=>m i' _ b) (Hp.dQ _ _ _) hk
  ·exact t.i4 i' j p es h hk
 ·exact(t.ct j hj).1 x (λi' b h=>s i' b (a! _ h))
def Told.ins{a:Nat}{p:Pos}{x y:V}{es:List (V×V)}(hi:∀c j,(i,c,j)∉phased past.length l)(W:p.nat<q.nat)(G:base.get p=none)(o:cur.get p=some (.map es))(w:apk x es=true)
  (t:Told P e ops sb fr k l B base (cur.put p (some (.map (es++ [(x,y)])))) past pc q out T) (U:∀t v,dA t env=some v->dA t B=some v)
  (S:jP P e ops sb fr {T with I:=(i,past.length,p,x,y)::T.I} i (.ins a) past.length) (X:Wanted ops T.E i):
  Told P e ops sb fr k ((i,.ins a)::l) env base cur past pc q out {T with I:=(i,past.length,p,x,y)::T.I}:=by
 have L:∀i' j g,(i',j,p,g)∉T.A:=λi' j g h=>by
  have:=(t.a1 _ _ _ _ h).1;omega
 have d:∀j z,(j≠past.length\/z≠p)->ent ((i,past.length,p,x,y)::T.I) (λ_=>true) j z=ent T.I (λ_=>true) j z:=λj z n=>by
  rw[LV,if_neg (λh=>by rcases n with n|n;exact n h.1.symm;exact n h.2.1.symm)];rfl
 have f:ent ((i,past.length,p,x,y)::T.I) (λ_=>true) past.length p=(x,y)::ent T.I (λ_=>true) past.length p:=by
  rw[LV,if_pos ⟨rfl,rfl,rfl⟩];rfl
 refine⟨λz v h=>t.tEnv z v (U z v h),t.tBase,t.tPast,t.tPc,λi' N j' h=>?_,λi' j m g h=>?_,t.a2,t.a3,λz n=>?_,λi' j m Y Z h=>?_,?_,λz r n H hk=>?_,λi' j m r h hk=>?_,t.cn,t.ct,t.out⟩
 ·rcases b!.1 h with h|h
  ·cases h;exact S
  ·exact(t.steps i' N j' h).aPO
 ·obtain⟨s,u,D,O,Q⟩:=t.a1 i' j m g h;refine⟨s,u,a! _ D,?_,Q⟩;show(T.Cs j).get m=some (Mc (ent ((i,past.length,p,x,y)::T.I) (λ_=>true) j m) g);rw[d j m (.inr λe=>by rw[e]at s;omega)];exact O
 ·show(T.Cs past.length).get z=(cur.get z).map (Mc (ent ((i,past.length,p,x,y)::T.I) (λ_=>true) past.length z));rw[t.cs z n];by_cases b:z=p
  ·subst b;rw[f,Hp.dQ,o];simp[Mc]
  ·rw[d _ z (.inr b),Hp.dw _ b]
 ·rcases b!.1 h with h|h
  ·cases h;exact⟨.inl ⟨rfl,G,es,o⟩,⟨a,v! ..⟩,X⟩
  ·obtain⟨s,⟨a',u⟩,D⟩:=t.i1 _ _ _ _ _ h;refine⟨?_,⟨a',a! _ u⟩,D⟩;rcases s with⟨e1,e2,r,M⟩|s
   ·by_cases C:m=p
    ·subst C;exact .inl ⟨e1,e2,es,o⟩
    ·rw[Hp.dw _ C]at M;exact .inl ⟨e1,e2,r,M⟩
   ·exact .inr s
 ·show(List.map (·.1) ((i,past.length,p,x,y)::T.I)).Nodup;rw[List.map_cons,e!];refine⟨λK=>?_,t.i2⟩;obtain⟨⟨i',j',m,Y,Z⟩,K,J⟩:=C!.1 K;obtain⟨_,⟨a',u⟩,_⟩:=t.i1 _ _ _ _ _ K;have J:i'=i:=J
  subst J;exact hi _ _ u
 ·show ig (r++ent ((i,past.length,p,x,y)::T.I) (λ_=>true) past.length z);by_cases b:z=p
  ·subst b;rw[o]at H;cases H;rw[f];have:=t.i3 z (es++ [(x,y)]) n (Hp.dQ _ _ _) (hk.snoc (azC w));rw[x!]at this;exact this
  ·rw[d _ z (.inr b)];exact t.i3 z r n (by rw[Hp.dw _ b];exact H) hk
 ·show ig (r++ent ((i,past.length,p,x,y)::T.I) (λ_=>true) j m);rw[d j m (.inr λe=>by subst e;exact L _ _ _ h)];exact t.i4 i' j m r h hk
def Told.heavy{h:Hp}(t:Told P e ops sb fr k l B h h (base::past) (cur::pc) q out T)(hl:pc.length=past.length)(M:∀t v,dA t env=some v->dA t B=some v)
  (K:jP P e ops sb fr T i .heavy past.length):Told P e ops sb fr k ((i,.heavy)::l) env base cur past pc q out T:=by
 have C:T.Cs past.length=cur:=by have:=t.tPc 0 cur rfl;simpa using this
 have m:∀x,ent T.I (λ_=>true) past.length x= []:=λx=>Yu λy w hj _=>by
  obtain⟨i',j',E,O,Q⟩:=y;obtain⟨_,⟨a,g⟩,_⟩:=t.i1 _ _ _ _ _ w;have:=aq9 g;have hj:j'=past.length:=hj;simp at this;omega
 refine⟨λx v h=>t.tEnv x v (M x v h),?_,λr g u=>?_,λr g u=>?_,λi' G j' h=>?_,λi' j p z h=>?_,t.a2,t.a3,λx _=>?_,λi' j p x y h=>?_,t.i2,λx es _ _ hk=>?_,t.i4,by rw[C],λj hj=>?_,?_⟩
 ·have:=t.tPast 0 base rfl;simpa using this
 ·have:=t.tPast (r+1) g (by simpa using u);rw[<-this];congr 1;simp;omega
 ·have:=t.tPc (r+1) g (by simpa using u);rw[<-this];congr 1;simp;omega
 ·rcases b!.1 h with h|h
  ·cases h;exact K
  ·exact t.steps i' G j' h
 ·obtain⟨b,n,s,J⟩:=t.a1 i' j p z h;exact⟨b,n,a! _ s,J⟩
 ·rw[C,m];cases cur.get x with
  |none=>rfl
  |some o=>simp[LZ]
 ·obtain⟨b,⟨a,n⟩,s⟩:=t.i1 _ _ _ _ _ h;refine⟨?_,⟨a,a! _ n⟩,s⟩;rcases b with⟨_,e2,H,f⟩|b
  ·rw[e2]at f;cases f
  ·exact .inr b
 ·rw[m,z!];exact hk
 ·have N:(base::past).length=past.length+1:=rfl;by_cases e:j=past.length+1
  ·subst e;have L:T.Bs (past.length+1)=h:=t.tBase;rw[L];refine⟨λx D=>?_,t.cn⟩;have:=t.cs x D
   rw[show(base::past).length=past.length+1 from rfl]at this;rw[this,Yu λy w hj d=>?_]
   ·cases h.get x with
    |none=>rfl
    |some o=>simp[LZ]
   ·exfalso;obtain⟨i',j',E,O,Q⟩:=y;have hj:j'=past.length+1:=hj;have d:E=x:=d;subst hj;subst d;obtain⟨b,_,_⟩:=t.i1 _ _ _ _ _ w;rcases b with⟨_,e2,H,f⟩|⟨a,ob,b⟩
    ·rw[e2]at f;cases f
    ·exact D a ob b
  ·exact t.ct j (by omega)
 ·have:=t.out;have e:(base::past).length+bH l=past.length+bH ((i,.heavy)::l):=by simp[bH];omega
  rw[e]at this;exact this
def ae8{m:Hp->R V}{h:Hp}{k:V->Hp->Out}{out:Out}(hb:out≠ .bad)(h0:bnd m h k=out):∃v h',m h=.ok v h'/\k v h'=out:=by
 unfold bnd at h0;split at h0
 ·exact⟨_,_,by assumption,h0⟩
 ·exact absurd h0.symm hb
def xO{i:Nat}{c:Cls}{j:Nat}:∀{j₀:Nat} {l:Plan},(i,c,j)∈phased j₀ l->i∈l.map (·.1)
 |j₀,(i',a)::l,h=>by
  rcases b!.1 h with h|h
  ·cases h;simp
  ·have:=xO h;simp at this⊢;exact .inr this
def uZ(hb:out≠ .bad):∀(l:Plan) (env:Env) (base cur:Hp) (past pc:List Hp) (q:Pos),(l.map (·.1)).Nodup->pc.length=past.length->xZ P e ops sb fr k l env base cur past q=out->
  ∃T,Told P e ops sb fr k l env base cur past pc q out T
 | [],env,base,cur,past,pc,q,_,hl,h=>by
  let T:Tr:=⟨env,λj=>if j<past.length then past.getD (past.length - 1 - j) base else base,
   λj=>if j<past.length then pc.getD (past.length - 1 - j) base else if j=past.length then cur else base,[],[]⟩
  have N:T.Cs past.length=cur:=by simp[T]
  refine⟨T,?_⟩;constructor
  ·exact λ_ _ h=>h
  ·simp[T]
  ·intro r g K;have D:r<past.length:=by
    rcases c! r past.length with M|M
    ·exact M
    ·rw[r! M]at K;cases K
   have e1:past.length - 1 - r<past.length:=by omega
   have e2:past.length - 1 - (past.length - 1 - r)=r:=by omega
   simp only[T,e1,if_true,e2];rw[n!,K];rfl
  ·intro r g K;have D:r<pc.length:=by
    rcases c! r pc.length with M|M
    ·exact M
    ·rw[r! M]at K;cases K
   have e1:past.length - 1 - r<past.length:=by omega
   have e2:past.length - 1 - (past.length - 1 - r)=r:=by omega
   simp only[T,e1,if_true,e2];rw[n!,K];rfl
  ·intro i c j h;cases h
  ·intro i j p ob h;cases h
  ·intro a a' h;cases h
  ·intro a a' h;cases h
  ·intro x _;rw[N];show _=(cur.get x).map (Mc []);cases cur.get x with
   |none=>rfl
   |some o=>simp[LZ]
  ·intro i j p x y h;cases h
  ·exact List.nodup_nil
  ·intro x es _ _ hk;show ig (es++ []);rw[z!];exact hk
  ·intro i j p es h;cases h
  ·rw[N]
  ·intro j hj;have e1:¬j<past.length:=by omega
   have e2:¬j=past.length:=by omega
   simp[T,e1,e2]
  ·show k env (T.Cs (past.length+0))=out;rw[Nat.add_zero,N];exact h
 |(i,c)::l,env,base,cur,past,pc,q,W,hl,h=>by
  have s:(l.map (·.1)).Nodup:=(e!.1 (by simpa using W)).2;have Y:i∉l.map (·.1):=(e!.1 (by simpa using W)).1;unfold xZ at h;split at h
  ·exact absurd h.symm hb
  rename_i o H;have run:∀(C:∀T:Tr,(∀t v,dA t env=some v->dA t T.E=some v)->o.guard=none\/∃g b d,o.guard=some (g,b)/\(ops[g]?).bind (·.dst)=some d/\dA d T.E=some (.bool b)),
    (zM ops sb fr i env o.op.operands.toList λvs=>sK P e o c vs base cur past q λv base cur past q=>vH o.dst v env λenv=>xZ P e ops sb fr k l env base cur past q)=out->
    ∃T,Told P e ops sb fr k ((i,c)::l) env base cur past pc q out T:=by
   intro C h;obtain⟨vs,h,w⟩:=auP hb h;cases c with
   |pure=>
    simp only[sK]at h;split at h
    ·rename_i hp;obtain⟨v,h',z,h⟩:=ae8 hb h;obtain⟨B,h,f,hd⟩:=F9 hb h;obtain⟨T,t⟩:=uZ hb l B base cur past pc q s hl h;exact⟨T,t.stay f (by simp) ⟨o,H,.inl ⟨C T λx u n=>t.tEnv x u (f x u n),vs,v,w.mono (λx u n=>t.tEnv x u (f x u n)),λd m=>t.tEnv d v (hd d m),hp,_,_,z⟩⟩⟩
    ·exact absurd h.symm hb
   |read cnt=>
    simp only[sK]at h;split at h
    ·rename_i hp;obtain⟨v,h',z,h⟩:=ae8 hb h;obtain⟨h,ad⟩:=aEw hb h;obtain⟨B,h,f,hd⟩:=F9 hb h;obtain⟨T,t⟩:=uZ hb l B base cur past pc q s hl h;refine⟨T,t.stay f (by simp) ⟨o,H,.inl ⟨C T λx u n=>t.tEnv x u (f x u n),vs,v,w.mono (λx u n=>t.tEnv x u (f x u n)),λd m=>t.tEnv d v (hd d m),hp,λj' aj ak=>?_⟩⟩⟩;by_cases ej:j'=past.length
     ·subst ej;rw[t.tBase];exact⟨_,z⟩
     ·have K:past.length - 1 - j'<past.length:=by omega
      have U:=List.getElem?_eq_getElem K;have:=t.tPast _ _ U;rw[show past.length - 1 - (past.length - 1 - j')=j' by omega]at this;rw[this];exact ad _ _ (by omega) U
    ·exact absurd h.symm hb
   |alloc=>
    simp only[sK]at h;split at h
    ·rename_i ob mk aa;obtain⟨B,h,f,hd⟩:=F9 hb h;obtain⟨T,t⟩:=uZ hb l B base (cur.put q (some ob)) past pc q.succ s hl h;exact⟨_,t.alloc (λc j hm=>Y (xO hm)) f ⟨o,H,.inl ⟨C _ λx u n=>t.tEnv x u (f x u n),vs,mk q,w.mono (λx u n=>t.tEnv x u (f x u n)),λd m=>t.tEnv d _ (hd d m),ob,mk,q,aa,rfl,by simp⟩⟩ ⟨o,H,C T λx u n=>t.tEnv x u (f x u n)⟩⟩
    ·exact absurd h.symm hb
   |heavy=>
    simp only[sK]at h;obtain⟨v,h',z,h⟩:=ae8 hb h;obtain⟨B,h,f,hd⟩:=F9 hb h;obtain⟨T,t⟩:=uZ hb l B h' h' (base::past) (cur::pc) q s (by simp[hl]) h;have N:T.Cs past.length=cur:=by have:=t.tPc 0 cur rfl;simpa using this
    refine⟨T,t.heavy hl f ⟨o,H,.inl ⟨C T λx u n=>t.tEnv x u (f x u n),vs,v,w.mono (λx u n=>t.tEnv x u (f x u n)),λd m=>t.tEnv d v (hd d m),?_⟩⟩⟩;show iK P e o.op vs (T.Cs past.length)=.ok v (T.Bs (past.length+1));rw[N,show T.Bs (past.length+1)=h' from t.tBase];exact z
   |own a=>
    simp only[sK]at h;rcases vs with _|⟨u,_|⟨_,_⟩⟩
    ·exact absurd h.symm hb
    ·simp only[]at h;split at h
     ·rename_i G;unfold aGm at h;split at h
      ·rename_i p hu;split at h
       ·rename_i D;have ai:p.nat<q.nat:=by simpa[F!]using D
        obtain⟨v,h',z,h⟩:=ae8 hb h;obtain⟨B,h,f,hd⟩:=F9 hb h;obtain⟨T,t⟩:=uZ hb l B base cur past pc q s hl h;have Q:(T.Cs past.length).get p=cur.get p:=by
         have Q:=t.cs p λi' ob hA=>by have:=(t.a1 _ _ _ _ hA).1;omega
         obtain⟨cs,L⟩:=azo G hu z;rw[Q];cases O:cur.get p with
         |none=>rfl
         |some o=>
          rw[O]at L;cases o<;>first|rfl|cases L
        exact⟨T,t.stay f (by simp) ⟨o,H,.inl ⟨C T λx u n=>t.tEnv x u (f x u n),[u],v,w.mono (λx u n=>t.tEnv x u (f x u n)),λd m=>t.tEnv d v (hd d m),u,p,_,rfl,G,hu,auL G hu Q z⟩⟩⟩
       ·exact absurd h.symm hb
      ·exact absurd h.symm hb
     ·exact absurd h.symm hb
    ·exact absurd h.symm hb
   |ins a=>
    simp only[sK]at h;obtain⟨p,x,y,es,rfl,af,D,ab,O,X,h⟩:=azK hb h;obtain⟨B,h,f,hd⟩:=F9 hb h;obtain⟨T,t⟩:=uZ hb l B base (cur.put p (some (.map (es++ [(x,y)])))) past pc q s hl h;exact⟨_,t.ins (λc j hm=>Y (xO hm)) D ab O X f ⟨o,H,.inl ⟨C _ λx u n=>t.tEnv x u (f x u n),_,V.undef,w.mono (λx u n=>t.tEnv x u (f x u n)),λd m=>t.tEnv d _ (hd d m),p,x,y,rfl,af,rfl,by simp⟩⟩ ⟨o,H,C T λx u n=>t.tEnv x u (f x u n)⟩⟩
  split at h
  ·rename_i ae;exact run (λT _=>.inl ae) h
  ·rename_i g b J;split at h
   ·exact absurd h.symm hb
   ·rename_i d hd;split at h
    ·exact absurd h.symm hb
    ·rename_i v hv;have skip:(∀T:Tr,(∀t v,dA t env=some v->dA t T.E=some v)->∃g b d,o.guard=some (g,b)/\(ops[g]?).bind (·.dst)=some d/\(dA d T.E=some (.bool (!b))\/∃l,dA d T.E=some (.tuple l)))->
       (NW c base cur past q λbase cur past q=>vH o.dst V.undef env λenv=>xZ P e ops sb fr k l env base cur past q)=out->
       ∃T,Told P e ops sb fr k ((i,c)::l) env base cur past pc q out T:=by
      intro C h;have light:c≠ .heavy->(vH o.dst V.undef env λenv=>xZ P e ops sb fr k l env base cur past q)=out->∃T,Told P e ops sb fr k ((i,c)::l) env base cur past pc q out T:=by
       intro hc h;obtain⟨B,h,f,S⟩:=F9 hb h;obtain⟨T,t⟩:=uZ hb l B base cur past pc q s hl h;exact⟨T,t.stay f hc ⟨o,H,.inr ⟨C T λx u n=>t.tEnv x u (f x u n),λd m=>t.tEnv d _ (S d m),λe=>absurd e hc⟩⟩⟩
      cases c with
      |pure=>exact light (by simp) h
      |read cnt=>exact light (by simp) h
      |alloc=>exact light (by simp) h
      |own a=>exact light (by simp) h
      |ins a=>exact light (by simp) h
      |heavy=>
       simp only[NW]at h;obtain⟨B,h,f,S⟩:=F9 hb h;obtain⟨T,t⟩:=uZ hb l B cur cur (base::past) (cur::pc) q s (by simp[hl]) h;have N:T.Cs past.length=cur:=by have:=t.tPc 0 cur rfl;simpa using this
       exact⟨T,t.heavy hl f ⟨o,H,.inr ⟨C T λx u n=>t.tEnv x u (f x u n),λd m=>t.tEnv d _ (S d m),λ_=>by rw[N];exact t.tBase⟩⟩⟩
     unfold aGI at h;split at h
     ·rename_i Z;have key:∀T:Tr,(∀t v,dA t env=some v->dA t T.E=some v)->dA d T.E=some (.bool Z):=λT I=>I d _ hv;split at h
      ·exact run (λT I=>.inr ⟨g,_,d,J,hd,key T I⟩) h
      ·exact run (λT I=>.inr ⟨g,_,d,J,hd,key T I⟩) h
      ·rename_i ag ah;have ac:Z=!b:=by
        cases Z<;>cases b<;>first|rfl|exact absurd rfl (ag rfl)|exact absurd rfl (ah rfl)
       subst ac;exact skip (λT I=>⟨g,b,d,J,hd,.inl (key T I)⟩) h
     ·rename_i ll;exact skip (λT I=>⟨g,b,d,J,hd,.inr ⟨ll,I d _ hv⟩⟩) h
     ·exact absurd h.symm hb
end
section
variable{e:FuncId->Option Fun}{Ed:Nat->Nat->Prop}{ops:Array Oper}{sb:Nat->Nat->Bool}{fr:F}{keep:Nat->Bool}{G N:Nat}{Df:List Deferred}
def Edge(ops:Array Oper)(j i:Nat):Prop:=∃o e,ops[i]?=some o/\e∈o.after/\A! .any e=true/\e.on=j
inductive Bef (Ed:Nat->Nat->Prop):Nat->Nat->Prop where
 |one {j i:Nat}:Ed j i->Bef Ed j i
 |step {k j i:Nat}:Bef Ed k j->Ed j i->Bef Ed k i
def Down(Ed:Nat->Nat->Prop)(L:Array Bool):Prop:=∀i j,Ed j i->L.getD i false=true->L.getD j false=true
def Down.bef{L:Array Bool}(hd:Down Ed L){j i:Nat}(h:Bef Ed j i):L.getD i false=true->L.getD j false=true:=by
 induction h with
 |one h=>exact hd _ _ h
 |step _ h b=>exact λhi=>b (hd _ _ h hi)
structure Ready (ops:Array Oper) (Ed:Nat->Nat->Prop) (L:Array Bool) (i:Nat):Prop where
 lt:i<ops.size
 no:L.getD i false=false
 edge:∀j,Ed j i->L.getD j false=true
def ZW{L:Array Bool}(l:L.size=ops.size){i:Nat}(h:i∈i! .any ops L):Ready ops (Edge ops) L i:=by
 simp only[i!,k!,B!,j!,y!]at h;obtain⟨d,c,b⟩:=h;have hi:i<L.size:=by omega
 refine⟨d,?_,?_⟩
 ·simp[D!,hi]at c⊢;exact c
 ·rintro j ⟨o,e,k,g,hb,rfl⟩;rw[k]at b;simp only[w!,u!,t!]at b;have:=b e g;simpa[hb]using this
def auz{L:Array Bool}(h:L.size=ops.size){i:Nat}(hi:i<ops.size)(b:L.getD i false=false)(d:∀j,Edge ops j i->L.getD j false=true):i∈i! .any ops L:=by
 simp only[i!,k!,B!,j!,y!];have c:i<L.size:=by omega
 refine⟨hi,by simp[D!,c]at b⊢;exact b,?_⟩;rw[o! hi];simp only[w!,u!,t!];intro x g;by_cases hb:A! .any x=true
 ·rw[d x.on ⟨_,x,o! hi,g,hb,rfl⟩];simp
 ·simp[hb]
def Ready.bef{L:Array Bool}{i:Nat}(h:Ready ops Ed L i)(hd:Down Ed L){j:Nat}(hj:Bef Ed j i):L.getD j false=true:=by
 cases hj with
 |one b=>exact h.edge _ b
 |step hb b=>exact hd.bef hb (h.edge _ b)
def Ready.Tz{L:Array Bool}{i:Nat}(h:Ready ops Ed L i)(hd:Down Ed L){j:Nat}(hj:Bef Ed i j):L.getD j false=false:=by
 cases hl:L.getD j false with
 |false=>rfl
 |true=>have:=hd.bef hj hl;rw[h.no]at this;cases this
structure Static (ops:Array Oper) (Ed:Nat->Nat->Prop) (sb:Nat->Nat->Bool) (G N:Nat) (plan:Plan):Prop where
 cover:∀i,i<ops.size->∃c j,(i,c,j)∈phased 0 plan
 nodup:(plan.map (·.1)).Nodup
 heavyAt:∀j,j<bH plan->∃i,(i,.heavy,j)∈phased 0 plan/\i<ops.size
 chain:∀i j i' j',(i,.heavy,j)∈phased 0 plan->(i',.heavy,j')∈phased 0 plan->j<j'->Bef Ed i i'
 same:∀i i' j,(i,.heavy,j)∈phased 0 plan->(i',.heavy,j)∈phased 0 plan->i=i'
 alloc:∀i j i' j',(i,.alloc,j)∈phased 0 plan->(i',.heavy,j')∈phased 0 plan->j<=j'->Bef Ed i i'
 readU:∀i n j i' j',(i,.read n,j)∈phased 0 plan->(i',.heavy,j')∈phased 0 plan->j<=j'->Bef Ed i i'
 ag9:∀i n j i' j',(i,.read n,j)∈phased 0 plan->(i',.heavy,j')∈phased 0 plan->j'+n<j->Bef Ed i' i
 ownU:∀i a j i' j',(i,.own a,j)∈phased 0 plan->(i',.heavy,j')∈phased 0 plan->j<=j'->Bef Ed i i'
 ownA:∀i a j,(i,.own a,j)∈phased 0 plan->(a,.alloc,j)∈phased 0 plan/\Bef Ed a i/\∃oa o t,ops[a]?=some oa/\oa.dst=some t/\ops[i]?=some o/\o.op.operands.toList= [.tmp t]/\Ih ops sb i t=true
 insU:∀i a j i' j',(i,.ins a,j)∈phased 0 plan->(i',.heavy,j')∈phased 0 plan->j<=j'->Bef Ed i i'
 insA:∀i a j,(i,.ins a,j)∈phased 0 plan->(a,.alloc,j)∈phased 0 plan/\Bef Ed a i/\∃oa o t rest,ops[a]?=some oa/\oa.dst=some t/\ops[i]?=some o/\o.op.operands.toList=.tmp t::rest/\Ih ops sb i t=true
 guard:∀i o g b,ops[i]?=some o->o.guard=some (g,b)->Bef Ed g i
 dsts:∀(i i':Nat) (o o':Oper) (t:Nat),ops[i]?=some o->ops[i']?=some o'->o.dst=some t->o'.dst=some t->i=i'
 srcT:∀i t,i<ops.size->Ih ops sb i t=true->∃i' o',ops[i']?=some o'/\o'.dst=some t/\Bef Ed i' i
 srcF:∀i o t,ops[i]?=some o-> .tmp t∈o.op.operands.toList->Ih ops sb i t=false->∀i' o',ops[i']?=some o'->o'.dst=some t->i=i'\/Bef Ed i i'
 oper:∀o∈ops.toList,nZ G N o=true
def jL{i:Nat}{c k:Cls}{j j':Nat}:∀{j₀:Nat} {l:Plan},(l.map (·.1)).Nodup->(i,c,j)∈phased j₀ l->(i,k,j')∈phased j₀ l->c=k/\j=j'
 |j₀,(i',m)::l,hn,h,h'=>by
  have b:=(e!.1 (by simpa using hn:(i'::l.map (·.1)).Nodup))
  rcases b!.1 h with d|d<;>rcases b!.1 h' with g|g
  ·cases d;cases g;exact⟨rfl,rfl⟩
  ·cases d;exact absurd (xO (l:=l) g) b.1
  ·cases g;exact absurd (xO (l:=l) d) b.1
  ·exact jL b.2 d g
def sW{i:Nat}{c:Cls}{j:Nat}:∀{j₀:Nat} {l:Plan},(i,c,j)∈phased j₀ l->j<=j₀+bH l/\(c=.heavy->j<j₀+bH l)
 |j₀,(i',b)::l,h=>by
  rcases b!.1 h with h|h
  ·cases h;cases c<;>simp[bH]
  ·have:=sW h;cases b<;>simp only[bH]at this⊢<;>(refine⟨by omega,λd=>?_⟩;have:=this.2 d;omega)
structure Inv (T:Tr) (ops:Array Oper) (Ed:Nat->Nat->Prop) (plan:Plan) (keep:Nat->Bool) (fr:F) (G N:Nat) (Df:List Deferred) (M₀:Mp) (h₀:Hp) (w₀:World) (L:Array Bool) (M:Mp) (f:Hp) (j:Nat) (a:Act) (w:World):Prop where
 lsize:L.size=ops.size
 down:Down Ed L
 jle:j<=bH plan
 ph:∀i j',(i,.heavy,j')∈phased 0 plan->(L.getD i false=true↔j'<j)
 rel:Rel G M f w
 nx:f.next=(T.Bs j).next
 f1:∀i j' p ob,(i,j',p,ob)∈T.A->L.getD i false=true->j<=j'->f.get p=some (Mc (ent T.I (λi=>L.getD i false) j' p) ob)
 f2:∀x,(∀i j' ob,(i,j',x,ob)∈T.A->L.getD i false=true->¬j<=j')->f.get x=(T.Bs j).get x
 f3:∀i j' p ob,(i,j',p,ob)∈T.A->j<=j'->(T.Bs j).get p=none/\p.nat<(T.Bs j).next.nat
 un:∀i j' p ob,(i,j',p,ob)∈T.A->L.getD i false=false->M p=none
 e1:∀i o d v,L.getD i false=true->ops[i]?=some o->o.dst=some d->dA d T.E=some v->Rp M v (a.tmps.getD d undef)
 e2:∀t v,(∀i o,L.getD i false=true->ops[i]?=some o->o.dst≠some t)->fr.get (Pos.of t)=some v->keep t=true/\Rp M v (a.tmps.getD t undef)
 size:a.tmps.size=N
 plain:a.defers=Df
 ext:Ext M₀ h₀ w₀ M f w
def fC(L:Array Bool){i:Nat}(hi:i<L.size)(k:Nat):(L.setIfInBounds i true).getD k false=if k=i then true else L.getD k false:=by
 rw[l!,l!];by_cases e:k=i
 ·subst e;rw[if_pos rfl,Array.getElem?_setIfInBounds_self_of_lt hi];rfl
 ·rw[if_neg e,Array.getElem?_setIfInBounds_ne (Ne.symm e)]
variable{T:Tr}{plan:Plan}{M₀ M:Mp}{h₀ f:Hp}{w₀ w:World}{L:Array Bool}{j:Nat}{a:Act}{i:Nat}
def Inv.aHb(I:Inv T ops Ed plan keep fr G N Df M₀ h₀ w₀ L M f j a w)(S:Static ops Ed sb G N plan)(R:Ready ops Ed L i){j':Nat}(d:(i,.heavy,j')∈phased 0 plan):j'=j:=by
 have k:¬j'<j:=λh=>by have:=(I.ph i j' d).2 h;rw[R.no]at this;cases this
 rcases c! j j' with g|g
 ·have c:j<bH plan:=by have:=(sW d).2 rfl;omega
  obtain⟨i2,b,_⟩:=S.heavyAt j c;have:=R.bef I.down (S.chain i2 j i j' b d g);have:=(I.ph i2 j b).1 this;omega
 ·omega
def Inv.aHf(I:Inv T ops Ed plan keep fr G N Df M₀ h₀ w₀ L M f j a w)(S:Static ops Ed sb G N plan)(R:Ready ops Ed L i){j':Nat}(g:(i,.alloc,j')∈phased 0 plan):j<=j':=by
 rcases c! j' j with h|h
 ·have c:j'<bH plan:=by have:=I.jle;omega
  obtain⟨i2,b,_⟩:=S.heavyAt j' c;have d:=(I.ph i2 j' b).2 h;have:=R.Tz I.down (S.alloc i j' i2 j' g b (d! _));rw[d]at this;cases this
 ·exact h
def Inv.aIR(I:Inv T ops Ed plan keep fr G N Df M₀ h₀ w₀ L M f j a w)(S:Static ops Ed sb G N plan)(R:Ready ops Ed L i){n j':Nat}(d:(i,.read n,j')∈phased 0 plan):j<=j'/\j'<=j+n:=by
 constructor
 ·rcases c! j' j with h|h
  ·have c:j'<bH plan:=by have:=I.jle;omega
   obtain⟨i2,b,_⟩:=S.heavyAt j' c;have g:=(I.ph i2 j' b).2 h;have:=R.Tz I.down (S.readU i n j' i2 j' d b (d! _));rw[g]at this;cases this
  ·exact h
 ·rcases c! (j+n) j' with h|h
  ·have c:j<bH plan:=by have:=(sW d).1;omega
   obtain⟨i2,b,_⟩:=S.heavyAt j c;have:=R.bef I.down (S.ag9 i n j' i2 j d b h);have:=(I.ph i2 j b).1 this;omega
  ·exact h
def Inv.aNM(I:Inv T ops Ed plan keep fr G N Df M₀ h₀ w₀ L M f j a w)(S:Static ops Ed sb G N plan)(R:Ready ops Ed L i){x j':Nat}(g:(i,.own x,j')∈phased 0 plan):j<=j':=by
 rcases c! j' j with h|h
 ·have c:j'<bH plan:=by have:=I.jle;omega
  obtain⟨i2,b,_⟩:=S.heavyAt j' c;have d:=(I.ph i2 j' b).2 h;have:=R.Tz I.down (S.ownU i x j' i2 j' g b (d! _));rw[d]at this;cases this
 ·exact h
def Inv.aEd(I:Inv T ops Ed plan keep fr G N Df M₀ h₀ w₀ L M f j a w)(S:Static ops Ed sb G N plan)(R:Ready ops Ed L i){x j':Nat}(g:(i,.ins x,j')∈phased 0 plan):j<=j':=by
 rcases c! j' j with h|h
 ·have c:j'<bH plan:=by have:=I.jle;omega
  obtain⟨i2,b,_⟩:=S.heavyAt j' c;have d:=(I.ph i2 j' b).2 h;have:=R.Tz I.down (S.insU i x j' i2 j' g b (d! _));rw[d]at this;cases this
 ·exact h
def Inv.operand(I:Inv T ops Ed plan keep fr G N Df M₀ h₀ w₀ L M f j a w)(S:Static ops Ed sb G N plan)(R:Ready ops Ed L i){o:Oper}(l:ops[i]?=some o){x:Operand}(m:x∈o.op.operands.toList){v:V}(h:Src ops sb fr T.E i x v):Rp M v (a.eval x):=by
 cases x with
 |tmp t=>
  rcases h with⟨hb,k⟩|⟨hb,k⟩
  ·obtain⟨i',o',d,hd,b⟩:=S.srcT i t R.lt hb;exact I.e1 i' o' t v (R.bef I.down b) d hd k
  ·refine(I.e2 t v (λi' o' hl d hd=>?_) k).2;rcases S.srcF i o t l m hb i' o' d hd with rfl|b
   ·rw[R.no]at hl;cases hl
   ·have:=R.Tz I.down b;rw[hl]at this;cases this
 |const c=>exact UB h M
 |global g=>
  cases h;have q:g<G:=aib (S.oper o (by have:=q! l;simpa using this)) _ m g rfl;obtain⟨n,p⟩:=I.rel.gl g q;exact yL p 0
 |func f=>cases h;exact⟨rfl,.func _,[],[],rfl,⟨rfl,rfl⟩,rfl,rfl,rfl⟩
def Inv.operands(I:Inv T ops Ed plan keep fr G N Df M₀ h₀ w₀ L M f j a w)(S:Static ops Ed sb G N plan)(R:Ready ops Ed L i){o:Oper}(b:ops[i]?=some o):∀{l:List Operand} {vs:List V},(∀x∈l,x∈o.op.operands.toList)->UF ops sb fr T.E i l vs->bY M vs (l.map a.eval)
 | [],vs,_,h=>by cases h;rfl
 |x::l,_,hl,⟨v,us,e,c,d⟩=>by
  subst e;exact⟨_,_,I.operand S R b (hl x (by simp)) c,I.operands S R b (λy g=>hl y (by simp[g])) d,rfl⟩
def Inv.aCI(I:Inv T ops Ed plan keep fr G N Df M₀ h₀ w₀ L M f j a w)(S:Static ops Ed sb G N plan)(R:Ready ops Ed L i){o:Oper}(s:ops[i]?=some o){M':Mp}(q:M.le M'){v:V}{c:Value}(z:Rp M' v c)(hd:∀d,o.dst=some d->dA d T.E=some v):
  (∀i' o' d v',(L.setIfInBounds i true).getD i' false=true->ops[i']?=some o'->o'.dst=some d->dA d T.E=some v'->Rp M' v' ((a.put o.dst c).tmps.getD d undef))/\
  (∀t v',(∀i' o',(L.setIfInBounds i true).getD i' false=true->ops[i']?=some o'->o'.dst≠some t)->fr.get (Pos.of t)=some v'->keep t=true/\Rp M' v' ((a.put o.dst c).tmps.getD t undef))/\
  (a.put o.dst c).tmps.size=N/\(a.put o.dst c).defers=Df:=by
 have n:i<L.size:=by rw[I.lsize];exact R.lt
 have x:=S.oper o (by have:=q! s;simpa using this);have m:∀d,o.dst=some d->d<a.tmps.size:=λd hd=>by rw[I.size];exact xP x d hd
 refine⟨λi' o' d v' hl g h l=>?_,λt v' r l=>?_,?_,?_⟩
 ·rw[fC L n]at hl;by_cases e:i'=i
  ·subst e;rw[s]at g;cases g;rw[h,vF (m d h),if_pos rfl];have:=hd d h;rw[l]at this;cases this;exact z
  ·rw[if_neg e]at hl;have old:=(I.e1 i' o' d v' hl g h l).mono q;cases k:o.dst with
   |none=>exact old
   |some b=>
    have p:d≠b:=λu=>by subst u;exact e (S.dsts i' i o' o d g s h k)
    rw[vF (m b k),if_neg p];exact old
 ·have y:=I.e2 t v' (λi' o' hl g=>r i' o' (by rw[fC L n];split<;>first|rfl|exact hl) g) l;refine⟨y.1,?_⟩;have old:=y.2.mono q
  cases k:o.dst with
  |none=>exact old
  |some b=>
   have p:t≠b:=λu=>by subst u;exact r i o (by rw[fC L n,if_pos rfl]) s k
   rw[vF (m b k),if_neg p];exact old
 ·cases o.dst<;>simp[Act.put,I.size]
 ·cases o.dst<;>exact I.plain
def Inv.lists(I:Inv T ops Ed plan keep fr G N Df M₀ h₀ w₀ L M f j a w)(R:Ready ops Ed L i):(L.setIfInBounds i true).size=ops.size/\Down Ed (L.setIfInBounds i true):=by
 have c:i<L.size:=by rw[I.lsize];exact R.lt
 refine⟨by simp[I.lsize],λk l b hk=>?_⟩;rw[fC L c]at hk⊢;split
 ·rfl
 ·split at hk
  ·rename_i e;subst e;exact R.edge l b
  ·exact I.down k l b hk
def Inv.akV(I:Inv T ops Ed plan keep fr G N Df M₀ h₀ w₀ L M f j a w):∀x o,(T.Bs j).get x=some o->f.get x=some o:=by
 intro x o b;rw[I.f2 x (λi' j' ob c _ hj=>?_)]
 ·exact b
 ·have:=(I.f3 i' j' x ob c hj).1;rw[b]at this;cases this
def azP{α:Type}{I:List (Nat×α)}(hn:(I.map (·.1)).Nodup){y z:Nat×α}(g:y∈I)(h:z∈I)(e:y.1=z.1):y=z:=by
 induction I with
 |nil=>cases g
 |cons x I k=>
  have c:=e!.1 (by simpa using hn:(x.1::I.map (·.1)).Nodup);rcases b!.1 g with d|d
  ·rcases b!.1 h with b|b
   ·rw[d,b]
   ·exact absurd (by rw[<-d,e];exact g! b) c.1
  ·rcases b!.1 h with b|b
   ·exact absurd (by rw[<-b,<-e];exact g! d) c.1
   ·exact k c.2 d b
structure Made (T:Tr) (ops:Array Oper) (Ed:Nat->Nat->Prop) (plan:Plan) (q:Pos):Prop where
 a1:∀i j p ob,(i,j,p,ob)∈T.A->q.nat<=p.nat/\(i,.alloc,j)∈phased 0 plan/\(T.Cs j).get p=some (Mc (ent T.I (λ_=>true) j p) ob)/\Wanted ops T.E i
 a2:∀a a',a∈T.A->a'∈T.A->a.2.2.1=a'.2.2.1->a=a'
 a3:∀a a',a∈T.A->a'∈T.A->a.1=a'.1->a=a'
 ct:∀j,(∀x,(∀i ob,(i,j,x,ob)∉T.A)->(T.Cs j).get x=(T.Bs j).get x)/\(T.Cs j).next=(T.Bs j).next
 i1:∀i j p x y,(i,j,p,x,y)∈T.I->∃a,(i,.ins a,j)∈phased 0 plan/\(a,j,p,.map [])∈T.A/\Bef Ed a i/\Wanted ops T.E i
 i2:(T.I.map (·.1)).Nodup
 i4:∀i j p es,(i,j,p,.map es)∈T.A->ig es->ig (es++ent T.I (λ_=>true) j p)
def aax(c:∀j p x y,(i,j,p,x,y)∉T.I)(hi:i<L.size)(j:Nat)(p:Pos):ent T.I (λk=>(L.setIfInBounds i true).getD k false) j p=ent T.I (λk=>L.getD k false) j p:=
 F7 λy d _ _=>by
  have b:y.1≠i:=λe=>c y.2.1 y.2.2.1 y.2.2.2.1 y.2.2.2.2 (by rw[<-e];exact d);rw[fC L hi,if_neg b]
def Inv.azZ(I:Inv T ops Ed plan keep fr G N Df M₀ h₀ w₀ L M f j a w)(A:Made T ops Ed plan h₀.next)(g:∀i' p ob,(i',j,p,ob)∈T.A->L.getD i' false=true)(c:∀i' p x y,(i',j,p,x,y)∈T.I->L.getD i' false=true):∀x o,(T.Cs j).get x=some o->f.get x=some o:=by
 intro x o l;by_cases h:∃i' ob,(i',j,x,ob)∈T.A
 ·obtain⟨i',ob,d⟩:=h;have:=(A.a1 _ _ _ _ d).2.2.1;rw[l]at this;cases this;rw[I.f1 _ _ _ _ d (g _ _ _ d) (d! _)];rw[F7 (b:=λ_=>true) (b':=λk=>L.getD k false) λy m hj _=>by
   obtain⟨i2,n,q,r,s⟩:=y;have hj:n=j:=hj;subst hj;exact(c _ _ _ _ m).symm]
 ·rw[(A.ct j).1 x (λi' ob d=>h ⟨i',ob,d⟩)]at l;exact I.akV x o l
def Inv.aDO{g:Hp}(n:∀x o,g.get x=some o->f.get x=some o)(m:g.next=f.next)(I:Inv T ops Ed plan keep fr G N Df M₀ h₀ w₀ L M f j a w)(S:Static ops Ed sb G N plan)(A:Made T ops Ed plan h₀.next)(R:Ready ops Ed L i){o:Oper}(J:ops[i]?=some o){c:Cls}{j':Nat}(K:(i,c,j')∈phased 0 plan)(H:c≠ .heavy)(C:∀b p ob,(i,b,p,ob)∉T.A)(D:∀j p x y,(i,j,p,x,y)∉T.I)
  {M':Mp} {w':World} (z:Rel G M' g w') (x:Ext M g w M' g w') {v:V} {t:Value} (O:Rp M' v t) (hd:∀d,o.dst=some d->dA d T.E=some v):
  Inv T ops Ed plan keep fr G N Df M₀ h₀ w₀ (L.setIfInBounds i true) M' f j (a.put o.dst t) w':=by
 have k:i<L.size:=by rw[I.lsize];exact R.lt
 obtain⟨l1,X⟩:=I.lists R;obtain⟨P,Q,U,W⟩:=I.aCI S R J x.le O hd;have u:=I.rel.frame (f':=f) n m z x (λy Y r=>by
  cases hb:g.get y with
  |none=>exact .inr ⟨r,rfl⟩
  |some o2=>have:=n y o2 hb;rw[r]at this;cases this;exact .inl rfl) m.symm
 have l:∀i' b p ob,(i',b,p,ob)∈T.A->i'≠i:=λi' b p ob h e=>by subst e;exact C _ _ _ h
 refine⟨l1,X,I.jle,λi' b h=>?_,u.1,I.nx,λi' b p ob h hl hj=>?_,λy r=>?_,I.f3,λi' b p ob h hl=>?_,P,Q,U,W,I.ext.trans u.2⟩
 ·have q:i'≠i:=λe=>by
   subst e;obtain⟨B,_⟩:=jL S.nodup K h;exact H B
  rw[fC L k,if_neg q];exact I.ph i' b h
 ·rw[fC L k,if_neg (l _ _ _ _ h)]at hl;rw[aax D k];exact I.f1 i' b p ob h hl hj
 ·exact I.f2 y λi' b ob h hl=>r i' b ob h (by rw[fC L k,if_neg (l _ _ _ _ h)];exact hl)
 ·rw[fC L k,if_neg (l _ _ _ _ h)]at hl;have hn:=I.un i' b p ob h hl;by_cases s:p.nat<g.next.nat
  ·exact x.none p s hn
  ·exact z.fresh p (by omega)
def Inv.still(I:Inv T ops Ed plan keep fr G N Df M₀ h₀ w₀ L M f j a w)(S:Static ops Ed sb G N plan)(A:Made T ops Ed plan h₀.next)(R:Ready ops Ed L i){o:Oper}(l:ops[i]?=some o){c:Cls}{j':Nat}(m:(i,c,j')∈phased 0 plan)(k:c≠ .heavy)(g:∀r p ob,(i,r,p,ob)∉T.A)(h:∀j p x y,(i,j,p,x,y)∉T.I)
  {M':Mp} {w':World} (n:Rel G M' (T.Bs j) w') (x:Ext M (T.Bs j) w M' (T.Bs j) w') {v:V} {b:Value} (q:Rp M' v b) (hd:∀d,o.dst=some d->dA d T.E=some v):
  Inv T ops Ed plan keep fr G N Df M₀ h₀ w₀ (L.setIfInBounds i true) M' f j (a.put o.dst b) w':=
 I.aDO I.akV I.nx.symm S A R l m k g h n x q hd
def Inv.make(I:Inv T ops Ed plan keep fr G N Df M₀ h₀ w₀ L M f j a w)(S:Static ops Ed sb G N plan)(A:Made T ops Ed plan h₀.next)(R:Ready ops Ed L i){o:Oper}(ho:ops[i]?=some o){j':Nat}(U:(i,.alloc,j')∈phased 0 plan)
  {ob:Ob} {p:Pos} (r:(i,j',p,ob)∈T.A) {w':World} {b:Obj} {n:Nat} (Y:w'.heap=w.heap.push b) (Q:w'.os=w.os) (ht:w'.tape=w.tape) (u:w'.output=w.output)
  (P:∀N:Mp,M.le N->jV N ⟨w.heap.size,0,n⟩ w' ob) {v:V} {W:Value} (hv:Rp (M.add p ⟨w.heap.size,0,n⟩) v W) (hd:∀d,o.dst=some d->dA d T.E=some v):
  Inv T ops Ed plan keep fr G N Df M₀ h₀ w₀ (L.setIfInBounds i true) (M.add p ⟨w.heap.size,0,n⟩) (f.put p (some ob)) j (a.put o.dst W) w':=by
 have g:i<L.size:=by rw[I.lsize];exact R.lt
 obtain⟨l1,l2⟩:=I.lists R;have hj:=I.aHf S R U;have J:M p=none:=I.un _ _ _ _ r R.no;have O:=(I.f3 _ _ _ _ r hj).2;have K:=(A.a1 _ _ _ _ r).1;obtain⟨C,D,g3,g4⟩:=I.aCI S R ho (Mp.Ut J _) hv hd;have one:∀i' k l c,(i',k,l,c)∈T.A->l=p->i'=i/\c=ob:=λi' k l c h e=>by
  have:=A.a2 _ _ h r e;cases this;exact⟨rfl,rfl⟩
 have Z:∀i' k l c,(i',k,l,c)∈T.A->i'=i->l=p/\c=ob:=λi' k l c h e=>by
  have:=A.a3 _ _ h r e;cases this;exact⟨rfl,rfl⟩
 have X:∀j p x y,(i,j,p,x,y)∉T.I:=λk l x1 y1 h=>by
  obtain⟨a1,H,_⟩:=A.i1 _ _ _ _ _ h;obtain⟨h2,_⟩:=jL S.nodup U H;cases h2
 refine⟨l1,l2,I.jle,λi' k h=>?_,I.rel.putAt J (by rw[I.nx];exact O) ob b n Y P,I.nx,λi' k l c h hl m=>?_,λy z=>?_,I.f3,λi' k l c h hl=>?_,C,D,g3,g4,I.ext.putAt J K ob b n Y Q ht u⟩
 ·have t:i'≠i:=λe=>by
   subst e;obtain⟨H,_⟩:=jL S.nodup U h;cases H
  rw[fC L g,if_neg t];exact I.ph i' k h
 ·by_cases e:i'=i
  ·have e2:=A.a3 _ _ h r e;cases e2;rw[aax X g,Yu λy z m s=>?_,LZ]
   ·exact Hp.dQ _ _ _
   ·obtain⟨i2,j2,p2,x2,y2⟩:=y;have m:j2=j':=m;have s:p2=p:=s;subst m;subst s;obtain⟨a2,_,C,D,_⟩:=A.i1 _ _ _ _ _ z;have e3:=A.a2 _ _ C r rfl;cases e3;exact R.Tz I.down D
  ·have q:l≠p:=λB=>e (one _ _ _ _ h B).1;rw[Hp.dw _ q];rw[fC L g,if_neg e]at hl;rw[aax X g];exact I.f1 i' k l c h hl m
 ·have q:y≠p:=λe=>by
   subst e;exact z i j' ob r (by rw[fC L g,if_pos rfl]) hj
  rw[Hp.dw _ q];refine I.f2 y λi' k c h hl=>z i' k c h ?_;rw[fC L g];split
  ·rfl
  ·exact hl
 ·rw[fC L g]at hl;split at hl
  ·cases hl
  ·rename_i e;have q:l≠p:=λB=>e (one _ _ _ _ h B).1;rw[Mp.gy _ q];exact I.un _ _ _ _ h hl
def Inv.turn(I:Inv T ops Ed plan keep fr G N Df M₀ h₀ w₀ L M f j a w)(S:Static ops Ed sb G N plan)(A:Made T ops Ed plan h₀.next)(R:Ready ops Ed L i){o:Oper}(ho:ops[i]?=some o)(D:(i,.heavy,j)∈phased 0 plan)
  {M':Mp} {w':World} (hr:Rel G M' (T.Bs (j+1)) w') (x:Ext M (T.Cs j) w M' (T.Bs (j+1)) w') {v:V} {X:Value} (hv:Rp M' v X) (hd:∀d,o.dst=some d->dA d T.E=some v):
  ∃f',Inv T ops Ed plan keep fr G N Df M₀ h₀ w₀ (L.setIfInBounds i true) M' f' (j+1) (a.put o.dst X) w':=by
 have n:i<L.size:=by rw[I.lsize];exact R.lt
 obtain⟨l1,l2⟩:=I.lists R;obtain⟨Z,g2,g3,g4⟩:=I.aCI S R ho x.le hv hd;have J:∀i' p ob,(i',j,p,ob)∈T.A->L.getD i' false=true:=λi' p ob h=>
  R.bef I.down (S.alloc i' j i j (A.a1 _ _ _ _ h).2.1 D (d! _))
 have z:∀i' p x y,(i',j,p,x,y)∈T.I->L.getD i' false=true:=λi' p x1 y1 h=>by
  obtain⟨a1,g,_⟩:=A.i1 _ _ _ _ _ h;exact R.bef I.down (S.insU i' a1 j i j g D (d! _))
 have hI:∀j p x y,(i,j,p,x,y)∉T.I:=λb p1 x1 y1 h=>by
  obtain⟨a1,g,_⟩:=A.i1 _ _ _ _ _ h;obtain⟨m,_⟩:=jL S.nodup D g;cases m
 have O:=I.azZ A J z;have U:(T.Cs j).next=f.next:=by rw[(A.ct j).2,I.nx]
 have u:∀i' b p ob,(i',b,p,ob)∈T.A->j+1<=b->(T.Cs j).get p=none:=λi' b p ob h hj=>by
  rw[(A.ct j).1 p (λi2 W m=>?_)]
  ·exact(I.f3 _ _ _ _ h (by omega)).1
  ·have:=A.a2 _ _ h m rfl;cases this;omega
 have C:∀i' b p ob,(i',b,p,ob)∈T.A->i'≠i:=λi' b p ob h e=>by
  subst e;obtain⟨g,_⟩:=jL S.nodup D (A.a1 _ _ _ _ h).2.1;cases g
 let c:List (Pos×Ob):=(T.A.filter λy=>L.getD y.1 false&&decide (j+1<=y.2.1)).map λy=>(y.2.2.1,Mc (ent T.I (λk=>L.getD k false) y.2.1 y.2.2.1) y.2.2.2)
 have hit:∀p ob,(p,ob)∈c↔∃i' b l,(i',b,p,l)∈T.A/\L.getD i' false=true/\j+1<=b/\ob=Mc (ent T.I (λk=>L.getD k false) b p) l:=by
  intro p ob;simp only[c,C!,k!,j!,decide_eq_true_eq];constructor
  ·rintro⟨⟨i',b,p1,l⟩,⟨g,m,q⟩,h4⟩;cases h4;exact⟨i',b,l,g,m,q,rfl⟩
  ·rintro⟨i',b,l,g,m,q,rfl⟩;exact⟨(i',b,p,l),⟨g,m,q⟩,rfl⟩
 let f':=Uh (T.Bs (j+1)) c
 have t:f'.next=(T.Bs (j+1)).next:=ax0 _ _;have r:∀p ob,(p,ob)∈c->f'.get p=some ob:=λp ob h=>ao4 h λaa h'=>by
  obtain⟨i1,b,l,g,_,_,rfl⟩:=(hit _ _).1 h;obtain⟨i2,j2,W,m,_,_,rfl⟩:=(hit _ _).1 h';have:=A.a2 _ _ g m rfl;cases this;rfl
 have s:∀p,(∀ob,(p,ob)∉c)->f'.get p=(T.Bs (j+1)).get p:=λp h=>ao3 h;have Y:=I.rel.frame (f':=f') O U hr x (λy oy H=>by
  by_cases h:∃ob,(y,ob)∈c
  ·obtain⟨ob,h⟩:=h;rw[r y ob h]at H;cases H;obtain⟨i',b,l,g,m,q,rfl⟩:=(hit _ _).1 h;exact .inr ⟨I.f1 _ _ _ _ g m (by omega),u _ _ _ _ g q⟩
  ·rw[s y (λob Q=>h ⟨ob,Q⟩)]at H;exact .inl H) t
 refine⟨f',l1,l2,?_,λi' b h=>?_,Y.1,t,λi' b p ob h hl hj=>?_,λy H=>?_,λi' b p ob h hj=>?_,λi' b p ob h hl=>?_,Z,g2,g3,g4,I.ext.trans Y.2⟩
 ·have:=(sW D).2 rfl;omega
 ·rw[fC L n];by_cases e:i'=i
  ·subst e;obtain⟨_,g⟩:=jL S.nodup D h;rw[if_pos rfl];subst g;exact⟨λ_=>by omega,λ_=>rfl⟩
  ·rw[if_neg e,I.ph i' b h];constructor
   ·intro g;omega
   ·intro g;rcases c! b j with m|m
    ·exact m
    ·exfalso;have B:b=j:=by omega
     subst B;exact e (S.same i' i b h D)
 ·rw[fC L n,if_neg (C _ _ _ _ h)]at hl;rw[aax hI n];exact r p _ ((hit _ _).2 ⟨i',b,ob,h,hl,hj,rfl⟩)
 ·refine s y λob Q=>?_;obtain⟨i',b,l,g,m,q,rfl⟩:=(hit _ _).1 Q;exact H i' b l g (by rw[fC L n,if_neg (C _ _ _ _ g)];exact m) q
 ·have g:=I.f3 _ _ _ _ h (show j<=b by omega);have hn:(T.Cs j).next=(T.Bs j).next:=(A.ct j).2;exact⟨x.old p (by rw[hn];exact g.2) (u _ _ _ _ h hj),by have:=x.next;rw[hn]at this;omega⟩
 ·rw[fC L n,if_neg (C _ _ _ _ h)]at hl;have hn:=I.un i' b p ob h hl;have B:j<=b:=by
   rcases c! b j with m|m
   ·have P:b<bH plan:=by have:=I.jle;omega
    obtain⟨i2,K,_⟩:=S.heavyAt b P;have q:=(I.ph i2 b K).2 m;have:=I.down.bef (S.alloc i' b i2 b (A.a1 _ _ _ _ h).2.1 K (d! _)) q;rw[hl]at this;cases this
   ·exact m
  exact x.none p (by rw[(A.ct j).2];exact(I.f3 _ _ _ _ h B).2) hn
def Inv.ins(I:Inv T ops Ed plan keep fr G N Df M₀ h₀ w₀ L M f j a w)(S:Static ops Ed sb G N plan)(A:Made T ops Ed plan h₀.next)(R:Ready ops Ed L i){o:Oper}(ho:ops[i]?=some o){x:Nat}{j':Nat}(K:(i,.ins x,j')∈phased 0 plan)
  {b:Nat} {p:Pos} {k y:V} (C:(i,j',p,k,y)∈T.I) (Z:(b,j',p,.map [])∈T.A) {M':Mp} {w':World}
  (Q:Rel G M' (f.put p (some (.map (ent T.I (λk=>L.getD k false) j' p++ [(k,y)])))) w') (O:Ext M f w M' (f.put p (some (.map (ent T.I (λk=>L.getD k false) j' p++ [(k,y)])))) w') {P:Value} (hv:Rp M' V.undef P) (hd:∀d,o.dst=some d->dA d T.E=some V.undef):
  Inv T ops Ed plan keep fr G N Df M₀ h₀ w₀ (L.setIfInBounds i true) M' (f.put p (some (.map (ent T.I (λk=>(L.setIfInBounds i true).getD k false) j' p)))) j (a.put o.dst P) w':=by
 have c:i<L.size:=by rw[I.lsize];exact R.lt
 obtain⟨l1,l2⟩:=I.lists R;have hj:=I.aEd S R K;obtain⟨U,W,X,Y⟩:=I.aCI S R ho O.le hv hd;have r:G! (ent T.I (λk=>L.getD k false) j' p++ [(k,y)]) (ent T.I (λk=>(L.setIfInBounds i true).getD k false) j' p):=
  (apC (y:=(i,j',p,k,y)) A.i2 C R.no (by show(L.setIfInBounds i true).getD i false=true;rw[fC L c,if_pos rfl]) λk hk=>by show(L.setIfInBounds i true).getD k false=_;rw[fC L c,if_neg hk]).symm
 have u:∀n m l,(i,n,m,l)∉T.A:=λn m l h=>by
  obtain⟨t,_⟩:=jL S.nodup K (A.a1 _ _ _ _ h).2.1;cases t
 have v:∀n m,m≠p->ent T.I (λk=>(L.setIfInBounds i true).getD k false) n m=ent T.I (λk=>L.getD k false) n m:=λn m J=>F7 λz B _ q=>by
  by_cases e:z.1=i
  ·exfalso;have t:z=(i,j',p,k,y):=azP A.i2 B C e;subst t;exact J q.symm
  ·rw[fC L c,if_neg e]
 refine⟨l1,l2,I.jle,λi' n h=>?_,Q.perm r,I.nx,λi' n m l h hl D=>?_,λz B=>?_,I.f3,λi' n m l h hl=>?_,U,W,X,Y,I.ext.trans O.perm⟩
 ·have g:i'≠i:=λe=>by
   subst e;obtain⟨t,_⟩:=jL S.nodup K h;cases t
  rw[fC L c,if_neg g];exact I.ph i' n h
 ·have g:i'≠i:=λe=>by subst e;exact u _ _ _ h
  rw[fC L c,if_neg g]at hl;by_cases s:m=p
  ·subst s;have:=A.a2 _ _ h Z rfl;cases this;rw[Hp.dQ];rfl
  ·rw[Hp.dw _ s,v n m s];exact I.f1 i' n m l h hl D
 ·by_cases q:z=p
  ·subst q;obtain⟨a2,_,k1,k2,_⟩:=A.i1 _ _ _ _ _ C;exact absurd hj (B a2 j' _ k1 (by
    have:=R.bef I.down k2;rw[fC L c];split
    ·rfl
    ·exact this))
  ·rw[Hp.dw _ q];refine I.f2 z λi' n l h hl=>B i' n l h ?_;rw[fC L c];split
   ·rfl
   ·exact hl
 ·have g:i'≠i:=λe=>by subst e;exact u _ _ _ h
  rw[fC L c,if_neg g]at hl;have hn:=I.un i' n m l h hl;by_cases H:m.nat<f.next.nat
  ·exact O.none m H hn
  ·exact Q.fresh m (by show f.next.nat<=m.nat;omega)
end
end Go.Vm
