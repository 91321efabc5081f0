/- Lemmas. No conditions. -/
import Derived.Test.YtpgppmioigacoaaGreatDoorFAC
import Derived.Scope
import Derived.RangeFuncRecord
import Derived.RangeFuncCalls
set_option linter.all false
open Nat renaming eq_of_beq_eq_true→a!,beq→d!,le_of_ble_eq_true→h!,ble→k!,le_refl→r!,blt_eq→u!,ne_of_beq_eq_false→w!,blt→x!
open Go.Sem renaming run_bind→b!,run_pure→n!
open Array renaming getD_eq_getD_getElem?→c!,replicate→q!,getElem?_eq_getElem→t!,range→y!,length_toList→A!,getElem?_push→B!,toList_map→G!
open Go.Result renaming andThen_ok→e!
open Go.Region renaming wanted→g!
open List renaming take_length→i!,filterMap_cons_some→v!,mem_of_getElem?→z!,filterMap_nil→D!,all_eq_true→I!,replicate→J!,mapM_cons→K!,mem_map→N!,map_map→O!,range→T!
open Go.Machine renaming fenced→j!
open Go.Fence renaming wide→l!
open Go.Oper renaming upon→o!,wp→M!,uponIn→Q!
open Bool renaming and_eq_true→p!,false_eq_true→E!
open Go.Instr renaming buildSlice→F!,makeMap→L!,alloc→P!,box→U!
noncomputable section
namespace Go.Vm
section
variable{P:Program}{G:Nat}{M:Mp}{h h':Hp}{w:World}
abbrev F:=T V
abbrev Env:=List (Nat×V)
inductive Out where
 |nor (fr:F) (h:Hp)
 |ret (fr:F) (h:Hp)
 |ex (i:Nat) (fr:F) (h:Hp)
 |bad
def dB(t:Nat):Env->Option V
 | []=>none
 |(u,v)::l=>(match d! t u with|true=>some v|false=>dB t l)
def gt(p:Pos)(fr:F)(k:V->Out):Out:=match fr.get p with|some v=>k v|none=>.bad
def aaB(t:Nat)(env:Env)(fr:F)(k:V->Env->Out):Out:=match dB t env with
 |some v=>k v env
 |none=>gt (Pos.of t) fr λv=>k v ((t,v)::env)
def aaP(x:Operand)(env:Env)(fr:F)(k:V->Env->Out):Out:=match x with
 | .tmp t=>aaB t env fr k
 | .const c=>(match const c with|some v=>k v env|none=>.bad)
 | .global g=>k (.ptr (Pos.of g) 0) env
 | .func f=>k (.func (.func f) .nil .nil) env
def am8:List Operand->Env->F->(List V->Env->Out)->Out
 | [],env,_,k=>k [] env
 |x::l,env,fr,k=>aaP x env fr λv env=>am8 l env fr λvs env=>k (v::vs) env
def bnd(m:Hp->R V)(h:Hp)(k:V->Hp->Out):Out:=match m h with| .ok v h=>k v h| .bad=>.bad
def aDr(keep:Nat->Bool)(d:Nat)(v:V)(fr:F)(k:F->Out):Out:=match keep d with
 |true=>k (fr.set (some v) (Pos.of d))
 |false=>k fr
def xO(keep:Nat->Bool)(d:Option Nat)(v:V)(env:Env)(fr:F)(k:Env->F->Out):Out:=match d with
 |none=>k env fr
 |some d=>aDr keep d v fr λfr=>k ((d,v)::env) fr
def opK(P:Program)(keep:Nat->Bool)(e:FuncId->Option Fun)(o:Oper)(env:Env)(fr:F)(h:Hp)(k:Env->F->Hp->Out):Out:=
 am8 o.op.operands.toList env fr λvs env=>bnd (iQ P e o.op vs) h λv h=>xO keep o.dst v env fr λenv fr=>k env fr h
def av5(v:V)(b:Bool)(yes no:Out):Out:=match v with
 | .bool c=>(match b,c with|true,true=>yes|false,false=>yes|_,_=>no)
 | .tuple _=>no
 |_=>.bad
def pG(P:Program)(keep:Nat->Bool)(e:FuncId->Option Fun)(ops:Array Oper):List Oper->Env->F->Hp->Out
 | [],_,fr,h=>.nor fr h
 |o::l,env,fr,h=>(match o.guard with
  |none=>opK P keep e o env fr h (pG P keep e ops l)
  |some (j,b)=>(match (ops[j]?).bind (·.dst) with
   |none=>.bad
   |some d=>aaB d env fr λv env=>av5 v b (opK P keep e o env fr h (pG P keep e ops l)) (xO keep o.dst V.undef env fr λenv fr=>pG P keep e ops l env fr h)))
def aB(a b:F->Hp->Out)(fr:F)(h:Hp):Out:=match a fr h with
 | .nor fr h=>b fr h
 | .ret fr h=>.ret fr h
 | .ex i fr h=>.ex i fr h
 | .bad=>.bad
def aqA(c:Operand)(a b:F->Hp->Out)(fr:F)(h:Hp):Out:=aaP c [] fr λv _=>match v with
 | .bool t=>(match t with|true=>a fr h|false=>b fr h)
 |_=>.bad
def bD(id:Nat)(b:F->Hp->Out)(fr:F)(h:Hp):Out:=match b fr h with
 | .nor fr h=>.nor fr h
 | .ret fr h=>.ret fr h
 | .ex i fr h=>(match d! i id with|true=>.nor fr h|false=>.ex i fr h)
 | .bad=>.bad
def dG(b:F->Hp->Out)(n:Nat):F->Hp->Out:=
 Nat.rec (motive:=λ_=>F->Hp->Out) (λ_ _=>.bad) (λ_ a fr h=>match b fr h with
  | .nor fr h=>a fr h
  | .ret fr h=>.ret fr h
  | .ex i fr h=>.ex i fr h
  | .bad=>.bad) n
def NM(keep:Nat->Bool)(M:Mp)(fr:F)(a:Act):Prop:=∀t v,fr.get (Pos.of t)=some v->keep t=true/\Rp M v (a.tmps.getD t undef)
def nM(M:Mp)(env:Env)(a:Act):Prop:=∀t v,dB t env=some v->Rp M v (a.tmps.getD t undef)
def NM.mono{keep:Nat->Bool}{M N:Mp}(b:M.le N){fr:F}{a:Act}(c:NM keep M fr a):NM keep N fr a:=λt v d=>⟨(c t v d).1,(c t v d).2.mono b⟩
def nM.mono{M N:Mp}(b:M.le N){env:Env}{a:Act}(c:nM M env a):nM N env a:=λt v d=>(c t v d).mono b
def nM.nil(M:Mp)(a:Act):nM M [] a:=λt v b=>by cases b
def jE(t u:Nat)(v:V)(env:Env):dB t ((u,v)::env)=if t=u then some v else dB t env:=by
 simp only[dB];split
 ·rename_i hb;rw[if_pos (a! hb)]
 ·rename_i hb;rw[if_neg (w! hb)]
def nM.cons{env:Env}{a:Act}(c:nM M env a){t:Nat}{v:V}(d:Rp M v (a.tmps.getD t undef)):nM M ((t,v)::env) a:=λu x b=>by
 rw[jE]at b;split at b
 ·rename_i h;subst h;cases b;exact d
 ·exact c u x b
def MO{a:Act}{d:Nat}{c:Value}{t:Nat}(hd:d<a.tmps.size):(a.put (some d) c).tmps.getD t undef=if t=d then c else a.tmps.getD t undef:=by
 simp only[Act.put,c!];by_cases e:t=d
 ·subst e;rw[if_pos rfl,Array.getElem?_setIfInBounds_self_of_lt hd];rfl
 ·rw[if_neg e,Array.getElem?_setIfInBounds_ne (Ne.symm e)]
structure At (keep:Nat->Bool) (G N:Nat) (Df:List Deferred) (M:Mp) (fr:F) (h:Hp) (a:Act) (w:World):Prop where
 rel:Rel G M h w
 fr:NM keep M fr a
 size:a.tmps.size=N
 plain:a.defers=Df
def jq(keep:Nat->Bool)(G N:Nat)(Df:List Deferred)(M:Mp)(h:Hp)(w:World):Out->Exit->Act->World->Prop
 | .nor fr h',.normal,a,w'=>∃M',At keep G N Df M' fr h' a w'/\Ext M h w M' h' w'
 | .ret fr h',.ret,a,w'=>∃M',At keep G N Df M' fr h' a w'/\Ext M h w M' h' w'
 | .ex i fr h',.exit j,a,w'=>j=i/\∃M',At keep G N Df M' fr h' a w'/\Ext M h w M' h' w'
 |_,_,_,_=>False
def jq.trans{keep:Nat->Bool}{N:Nat}{Df:List Deferred}{M':Mp}{w':World}(x:Ext M h w M' h' w'){o:Out}{e:Exit}{a:Act}{v:World}(q:jq keep G N Df M' h' w' o e a v):jq keep G N Df M h w o e a v:=by
 cases o<;>cases e<;>simp only[jq]at q⊢
 ·obtain⟨b,p,y⟩:=q;exact⟨b,p,x.trans y⟩
 ·obtain⟨b,p,y⟩:=q;exact⟨b,p,x.trans y⟩
 ·obtain⟨rfl,b,p,y⟩:=q;exact⟨rfl,b,p,x.trans y⟩
def iZ(ro:Option Nat):Fence:={l! with round:=ro}
def aiN{ro:Option Nat}{n:Nat}{P:Program}{f:FuncId}{args:Array Value}{w:World}{R:Ending->World->Prop}:CallsIn (iZ ro) n P f args w R↔Calls P f args w R:=
 (show CallsIn (iZ ro) n P f args w R↔CallsIn l! n P f args w R from by cases ro<;>exact Iff.rfl).trans callsIn_wide
def aHs{n:Nat}{P:Program}{c:Code}{Q:Exit->Act->World->Prop}{a:Act}{w:World}:c.wpIn (iZ none) n P Q a w↔c.wp P Q a w:=wpIn_wide (n:=n)
def ayE{ro:Option Nat}{P:Program}{m m':Machine}:StepsIn (j! P (iZ ro)) P m m'↔Steps P m m':=
 (show StepsIn (j! P (iZ ro)) P m m'↔StepsIn (j! P l!) P m m' from by cases ro<;>exact Iff.rfl).trans stepsIn_wide
def eU(P:Program)(keep:Nat->Bool)(G N:Nat)(c:Code)(D:F->Hp->Out):Prop:=
 ∀(ro:Option Nat) (n:Nat) (Df:List Deferred) fr h M a w,D fr h≠ .bad->At keep G N Df M fr h a w->c.wpIn (iZ ro) n P (jq keep G N Df M h w (D fr h)) a w
def eU.wp{P:Program}{keep:Nat->Bool}{G N:Nat}{c:Code}{D:F->Hp->Out}(d:eU P keep G N c D)(Df:List Deferred)(fr:F)(h:Hp)(M:Mp)(a:Act)(w:World)(b:D fr h≠ .bad)(at_:At keep G N Df M fr h a w):c.wp P (jq keep G N Df M h w (D fr h)) a w:=
 (aHs (n:=0)).1 (d none 0 Df fr h M a w b at_)
def jq.aui{keep:Nat->Bool}{G N:Nat}{Df:List Deferred}{M:Mp}{h:Hp}{w:World}{out:Out}:¬LetsOut (jq keep G N Df M h w out):=λ⟨a,w',q⟩=>by
 cases out<;>exact q
def az1{keep:Nat->Bool}{t:Nat}{env:Env}{fr:F}{a:Act}{k:V->Env->Out}{out:Out}(hb:out≠ .bad)(f:NM keep M fr a)(c:nM M env a)(e:aaB t env fr k=out):
  ∃v b,k v b=out/\Rp M v (a.tmps.getD t undef)/\nM M b a:=by
 unfold aaB at e;split at e
 ·rename_i v d;exact⟨v,env,e,c t v d,c⟩
 ·unfold gt at e;split at e
  ·rename_i v d;have:=(f t v d).2;exact⟨v,_,e,this,c.cons this⟩
  ·exact absurd e.symm hb
def ah5{keep:Nat->Bool}{N:Nat}{Df:List Deferred}{x:Operand}{env:Env}{fr:F}{a:Act}{k:V->Env->Out}{out:Out}(hb:out≠ .bad)(at_:At keep G N Df M fr h a w)(hG:∀g,x=.global g->g<G)(d:nM M env a)(e:aaP x env fr k=out):
  ∃v b,k v b=out/\Rp M v (a.eval x)/\nM M b a:=by
 cases x with
 |tmp t=>exact az1 hb at_.fr d e
 |const c=>
  simp only[aaP]at e;split at e
  ·rename_i v j;exact⟨v,env,e,UL j M,d⟩
  ·exact absurd e.symm hb
 |global g=>
  obtain⟨n,i⟩:=at_.rel.gl g (hG g rfl);refine⟨_,env,e,?_,d⟩;have:=yE i 0
  exact this
 |func f=>exact⟨_,env,e,⟨rfl,.func f,[],[],rfl,⟨rfl,rfl⟩,rfl,rfl,rfl⟩,d⟩
def avi{keep:Nat->Bool}{N:Nat}{Df:List Deferred}{fr:F}{a:Act}{out:Out}(hb:out≠ .bad)(at_:At keep G N Df M fr h a w):∀{l:List Operand} {env:Env} {k:List V->Env->Out},(∀x∈l,∀g,x=.global g->g<G)->nM M env a->am8 l env fr k=out->
  ∃vs b,k vs b=out/\cO M vs (l.map a.eval)/\nM M b a
 | [],env,k,_,d,e=>⟨[],env,e,rfl,d⟩
 |x::l,env,k,hG,d,e=>by
  obtain⟨v,b,e1,m,f⟩:=ah5 hb at_ (hG x (by simp)) d e;obtain⟨vs,c,e2,j,i⟩:=avi hb at_ (λy n=>hG y (by simp[n])) f e1;exact⟨v::vs,c,e2,⟨_,_,m,j,rfl⟩,i⟩
def aKT:Op->Bool
 | .defer _=>false
 |_=>true
def qL(G N:Nat)(o:Oper):Bool:=
 (match o.dst with|some d=>x! d N|none=>true)&&((o.op.operands.toList.all λx=>match x with| .global g=>x! g G|_=>true)&&aKT o.op)
def codeOk(G N:Nat):Code->Bool
 | .region _ ops _=>ops.toList.all (qL G N)
 | .seq a b=>codeOk G N a&&codeOk G N b
 | .cond c a b=>(match c with| .global g=>x! g G|_=>true)&&(codeOk G N a&&codeOk G N b)
 | .block _ b| .loop b| .scope b=>codeOk G N b
 |_=>true
def aio{keep:Nat->Bool}{N:Nat}{Df:List Deferred}{d:Option Nat}{v:V}{env:Env}{fr:F}{k:Env->F->Out}{out:Out}{a:Act}{c:Value}(at_:At keep G N Df M fr h a w)(p:nM M env a)(hd:∀x,d=some x->x<N)(s:Rp M v c)(e:xO keep d v env fr k=out):
  ∃g l,k g l=out/\At keep G N Df M l h (a.put d c) w/\nM M g (a.put d c):=by
 cases d with
 |none=>exact⟨env,fr,e,at_,p⟩
 |some d=>
  have j:d<a.tmps.size:=by rw[at_.size];exact hd d rfl
  have q:(a.put (some d) c).defers=Df:=at_.plain;have r:(a.put (some d) c).tmps.size=N:=by simp[Act.put,at_.size]
  have i:nM M ((d,v)::env) (a.put (some d) c):=λt x b=>by
   rw[MO j];rw[jE]at b;split at b
   ·rename_i f;cases b;rw[if_pos f];exact s
   ·rename_i f;rw[if_neg f];exact p t x b
  simp only[xO,aDr]at e;split at e
  ·rename_i m;refine⟨_,_,e,⟨at_.rel,λt x b=>?_,r,q⟩,i⟩;rw[MO j];by_cases f:t=d
   ·subst f;rw[T.oM]at b;cases b;exact⟨m,by rw[if_pos rfl];exact s⟩
   ·have n:Pos.of t≠Pos.of d:=λe=>f (Pos.afz e);rw[T.sU _ n]at b;rw[if_neg f];exact at_.fr t x b
  ·rename_i m;refine⟨_,_,e,⟨at_.rel,λt x b=>?_,r,q⟩,i⟩;obtain⟨o,u⟩:=at_.fr t x b;have f:t≠d:=λe=>by subst e;rw[o]at m;cases m
   rw[MO j,if_neg f];exact⟨o,u⟩
def IY{N:Nat}{o:Oper}(h:qL G N o=true):∀x,o.dst=some x->x<N:=by
 intro x a;simp only[qL,a,p!]at h;simpa[u!]using h.1
def aiU{N:Nat}{o:Oper}(h:qL G N o=true):∀x∈o.op.operands.toList,∀g,x=.global g->g<G:=by
 intro x b g a;simp only[qL,p!,I!]at h;have:=h.2.1 x b;subst a;simpa[u!]using this
def Gh{o:Oper}{a:Act}{K:Act->World->Prop}{Q:Exit->Act->World->Prop}{post:Value->World->Prop}(b:Opq P post ((execOp a.eval o).run P w))(d:∀c w',post c w'->K (a.put o.dst c) w'):o.wp P a w K Q:=by
 unfold M!;revert b;generalize (execOp a.eval o).run P w=f;intro b;cases f with
 |ok n w'=>
  cases n<;>simp only[Opq]at b<;>simp only[o!]
  ·exact d _ _ b
  ·exact d _ _ b
  ·exact b.mono λe j ⟨c,g,i⟩=>by subst g;exact d _ _ i
 |halt x w'=>exact b.elim
def am9{keep:Nat->Bool}{N:Nat}{Df:List Deferred}{e:FuncId->Option Fun}(z:∀f F,e f=some F->aG P G f F){o:Oper}(y:qL G N o=true){env:Env}{fr:F}{a:Act}{k:Env->F->Hp->Out}{out:Out}(hb:out≠ .bad)(at_:At keep G N Df M fr h a w)(C:nM M env a)
  (t:opK P keep e o env fr h k=out) {K:Act->World->Prop} {Q:Exit->Act->World->Prop}
  (B:∀b g h' a' w' M',k b g h'=out->At keep G N Df M' g h' a' w'->nM M' b a'->Ext M h w M' h' w'->K a' w'):o.wp P a w K Q:=by
 unfold opK at t;obtain⟨vs,u,e1,r,m⟩:=avi hb at_ (aiU y) C t;unfold bnd at e1;split at e1
 ·rename_i v x p;refine Gh (MG z r at_.rel p) ?_;rintro c w' ⟨M',D,q,s⟩;have i:At keep G N Df M' fr x a w':=⟨q,at_.fr.mono s.le,at_.size,at_.plain⟩
  obtain⟨d,l,e2,j,n⟩:=aio i (m.mono s.le) (IY y) D e1;exact B d l x _ _ M' e2 j n s
 ·exact absurd e1.symm hb
def aAf{keep:Nat->Bool}{N:Nat}{Df:List Deferred}{e:FuncId->Option Fun}(O:∀f F,e f=some F->aG P G f F){ops:Array Oper}(J:∀o∈ops.toList,qL G N o=true){out:Out}(hb:out≠ .bad):
  ∀(l:List Nat) (env:Env) (fr:F) (h:Hp) (M:Mp) (a:Act) (w:World),(∀i∈l,i<ops.size)->At keep G N Df M fr h a w->nM M env a->pG P keep e ops (l.filterMap (ops[·]?)) env fr h=out->
   wpOps P ops (jq keep G N Df M h w out) l a w:=by
 intro l;induction l with
 |nil=>
  intro env fr h M a w _ at_ C y;simp only[D!,pG]at y;subst y;exact⟨M,at_,.refl at_.rel⟩
 |cons i l ih=>
  intro env fr h M a w hl at_ C y;have hi:i<ops.size:=hl i (by simp);have ho:ops[i]?=some ops[i]:=t! hi;rw[wpOps_cons];unfold wpOp;simp only[ho];rw[v! ho]at y;have t:=J ops[i] (by simp);have next:∀m B h' a' w' M',pG P keep e ops (l.filterMap (ops[·]?)) m B h'=out->At keep G N Df M' B h' a' w'->nM M' m a'->Ext M h w M' h' w'->wpOps P ops (jq keep G N Df M h w out) l a' w':=by
   intro m B h' a' w' M' e1 at1 p hx;have:=ih m B h' M' a' w' (λj hj=>hl j (by simp[hj])) at1 p e1;have mono:∀(l:List Nat) (a:Act) (K:World) (Q Q':Exit->Act->World->Prop),(∀e a w,Q e a w->Q' e a w)->wpOps P ops Q l a K->wpOps P ops Q' l a K:=by
    intro l;induction l with
    |nil=>intro a K Q Q' k g;exact k _ _ _ g
    |cons j l u=>
     intro a K Q Q' k g;simp only[wpOps]at g⊢;split
     ·rename_i hn;simp only[hn]at g;exact u _ _ _ _ k g
     ·rename_i o hn;simp only[hn]at g;split
      ·rename_i I;simp only[I,if_true]at g;rcases g with g|⟨h1,a2,w2,h2⟩
       ·refine .inl ?_;unfold M! at g⊢;revert g;generalize (execOp a.eval o).run P K=Y;intro g;cases Y with
        |ok n w'=>
         cases n<;>simp only[o!]at g⊢<;>first
          |exact u _ _ _ _ k g
          |exact Calls.mono g (λe aa C=>by
            cases e<;>first
             |exact u _ _ _ _ k C
             |exact k _ _ _ C
             |(obtain⟨a3,w3,h3⟩:=C;exact⟨a3,w3,k _ _ _ h3⟩))
          |exact Rows.mono g (λ_ _ C=>u _ _ _ _ k C)
        |halt x w'=>cases x<;>simp only[o!]at g⊢<;>first|exact k _ _ _ g|exact g
       ·exact .inr ⟨h1,a2,w2,k _ _ _ h2⟩
      ·rename_i I;simp only[I]at g;exact u _ _ _ _ k g
   exact mono _ _ _ _ _ (λe a v q=>jq.trans hx q) this
  unfold pG at y;split at y
  ·rename_i L;have g:g! ops[i] (yielded ops a.tmps)=true:=by simp[g!,L]
   simp only[g,if_true];exact .inl (am9 O t hb at_ C y next)
  ·rename_i j b L;split at y
   ·exact absurd y.symm hb
   ·rename_i d hd;obtain⟨v,Z,e1,hv,p⟩:=az1 hb at_.fr C y;unfold av5 at e1;split at e1
    ·rename_i c;have s:=hv.bool;have X:yielded ops a.tmps j=some c:=by
      unfold yielded;rw[hd];simp only[Option.bind_some];rw[c!]at s;cases k:a.tmps[d]? with
      |none=>rw[k]at s;cases s
      |some z=>rw[k]at s;simp at s;subst s;rfl
     have g:g! ops[i] (yielded ops a.tmps)=(c==b):=by
      simp only[g!,L,X];cases c<;>cases b<;>rfl
     split at e1
     ·simp only[g,beq_self_eq_true,if_true];exact .inl (am9 O t hb at_ p e1 next)
     ·simp only[g,beq_self_eq_true,if_true];exact .inl (am9 O t hb at_ p e1 next)
     ·rename_i U W;have S:(c==b)=false:=by
       cases c<;>cases b<;>first|rfl|exact absurd rfl (U rfl)|exact absurd rfl (W rfl)
      simp only[g,S,E!,if_false];obtain⟨r,E,e2,D,H⟩:=aio at_ p (IY t) (pF M) e1;exact next r E h _ _ M e2 D H (.refl at_.rel)
    ·obtain⟨xs,_,s⟩:=hv.tuple;have X:yielded ops a.tmps j=none:=by
      unfold yielded;rw[hd];simp only[Option.bind_some];rw[c!]at s;cases k:a.tmps[d]? with
      |none=>rfl
      |some z=>rw[k]at s;simp at s;subst s;rfl
     have g:g! ops[i] (yielded ops a.tmps)=false:=by
      simp only[g!,L,X];cases b<;>rfl
     simp only[g,E!,if_false];obtain⟨r,E,e2,D,H⟩:=aio at_ p (IY t) (pF M) e1;exact next r E h _ _ M e2 D H (.refl at_.rel)
    ·exact absurd e1.symm hb
def vU{N:Nat}{o:Oper}(h:qL G N o=true):∀c,o.op≠ .defer c:=by
 intro c a;simp only[qL,p!]at h;have:=h.2.2;rw[a]at this;cases this
def aER{ro:Option Nat}{n:Nat}{o:Oper}{K K':Act->World->Prop}{Q Q':Exit->Act->World->Prop}(b:∀a w,K a w->K' a w)(f:∀e a w,Q e a w->Q' e a w)(hd:∀c,o.op≠ .defer c){a:Act}{w:World}
  (h:o.wp P a w K Q):o.wpIn (iZ ro) n P a w K' Q':=by
 refine⟨λ_ _=>trivial,?_⟩;rw[Oper.semAt_eq _ _ _ hd];unfold M! at h;revert h;generalize (execOp a.eval o).run P w=i;intro h;cases i with
 |ok nx w'=>
  cases nx<;>simp only[o!,Q!]at h⊢
  case value=>exact b _ _ h
  case skip=>exact b _ _ h
  case defer=>exact b _ _ h
  case enter=>
   refine⟨λg=>by simp[iZ,l!]at g,aiN.2 (Calls.mono h ?_)⟩;intro e j d;cases e
   ·exact b _ _ d
   ·exact f _ _ _ d
   ·obtain⟨a3,l,k⟩:=d;exact⟨a3,l,f _ _ _ k⟩
  case row=>
   refine⟨λg=>by simp[iZ,l!]at g,λc cs _=>?_⟩;obtain⟨v,j,r2,s2⟩:=h c cs;exact⟨v,j,b _ _ r2,ayE.2 s2⟩
 |halt x w'=>cases x<;>simp only[o!,Q!]at h⊢<;>first|exact f _ _ _ h|exact h
def aC6{ro:Option Nat}{n:Nat}{ops:Array Oper}{Q Q':Exit->Act->World->Prop}(g:∀e a w,Q e a w->Q' e a w)(hl:¬LetsOut Q)(hd:∀o∈ops.toList,∀c,o.op≠ .defer c):
  ∀(l:List Nat) (a:Act) (w:World),wpOps P ops Q l a w->wpOpsIn (iZ ro) n P ops Q' l a w:=by
 intro l;induction l with
 |nil=>intro a w h;exact g _ _ _ h
 |cons i rest f=>
  intro a w h;simp only[wpOps]at h;simp only[wpOpsIn];cases b:ops[i]? with
  |none=>rw[b]at h;exact f a w h
  |some o=>
   rw[b]at h;simp only[]at h⊢;have j:o∈ops.toList:=by have:=Array.mem_of_getElem? b;simpa using this
   split
   ·rename_i d;rw[if_pos d]at h;rcases h with h|⟨_,h⟩
    ·exact aER f g (hd o j) h
    ·exact absurd h hl
   ·rename_i d;rw[if_neg d]at h;exact⟨λ_ _=>trivial,f _ _ h⟩
def am4{ro:Option Nat}{n id:Nat}{ops:Array Oper}{Q:Exit->Act->World->Prop}{a:Act}{w:World}(b:P.follows .mixedOrders=true)(d:¬LetsOut Q)(hd:∀o∈ops.toList,∀c,o.op≠ .defer c)
  (h:wpAny P .any ops Q ops.size (q! ops.size false) a {w with drawn:=w.drawn+1}):(Code.region id ops true).wpIn (iZ ro) n P Q a w:=
 wpIn_region_draw λt=>aC6 (λ_ _ _ h=>h) d hd _ _ _ (by
  simp only[Region.schedule,b,Bool.true_or,if_true];exact wpAny_sound ops.size t _ a _ h)
end
section
variable{P:Program}{G:Nat}{M:Mp}{h h':Hp}{w:World}{keep:Nat->Bool}{N:Nat}{Df:List Deferred}{e:FuncId->Option Fun}
def eU.seq{c d:Code}{D E:F->Hp->Out}(k:eU P keep G N c D)(hd:eU P keep G N d E):eU P keep G N (.seq c d) (aB D E):=by
 intro ro n Df fr h M a w b at_;refine wpIn_seq ?_;unfold aB at b⊢;cases e1:D fr h with
 |bad=>rw[e1]at b;exact absurd rfl b
 |nor f j=>
  rw[e1]at b;refine wpIn_mono (k _ _ _ fr h M a w (by rw[e1];simp) at_) ?_;intro x a' w' q;rw[e1]at q;cases x<;>simp only[jq]at q;obtain⟨M',g,l⟩:=q;exact wpIn_mono (hd _ _ _ f j M' a' w' b g) λx a w q=>jq.trans l q
 |ret f j=>
  refine wpIn_mono (k _ _ _ fr h M a w (by rw[e1];simp) at_) ?_;intro x a' w' q;rw[e1]at q;cases x<;>simp only[jq]at q;exact q
 |ex i f j=>
  refine wpIn_mono (k _ _ _ fr h M a w (by rw[e1];simp) at_) ?_;intro x a' w' q;rw[e1]at q;cases x<;>simp only[jq]at q;exact q
def eU.cond{x:Operand}{c d:Code}{D E:F->Hp->Out}(j:∀g,x=.global g->g<G)(i:eU P keep G N c D)(hd:eU P keep G N d E):eU P keep G N (.cond x c d) (aqA x D E):=by
 intro ro n Df fr h M a w b at_;obtain⟨v,env,e1,k,-⟩:=ah5 b at_ j (nM.nil M a) (rfl:aqA x D E fr h=_);rw[<-e1]at b⊢;cases v<;>simp only[ne_eq,not_true_eq_false]at b⊢;rename_i t;have f:=k.bool;cases t
 ·exact wpIn_cond_false f (hd _ _ _ fr h M a w b at_)
 ·exact wpIn_cond_true f (i _ _ _ fr h M a w b at_)
def eU.block{id:Nat}{c:Code}{D:F->Hp->Out}(f:eU P keep G N c D):eU P keep G N (.block id c) (bD id D):=by
 intro ro n Df fr h M a w b at_;refine wpIn_block ?_;unfold bD at b⊢;cases e1:D fr h with
 |bad=>rw[e1]at b;exact absurd rfl b
 |nor d g=>
  refine wpIn_mono (f _ _ _ fr h M a w (by rw[e1];simp) at_) ?_;intro x a' w' q;rw[e1]at q;cases x<;>simp only[jq]at q;exact q
 |ret d g=>
  refine wpIn_mono (f _ _ _ fr h M a w (by rw[e1];simp) at_) ?_;intro x a' w' q;rw[e1]at q;cases x<;>simp only[jq]at q;exact q
 |ex i d g=>
  refine wpIn_mono (f _ _ _ fr h M a w (by rw[e1];simp) at_) ?_;intro x a' w' q;rw[e1]at q;cases x<;>simp only[jq]at q;obtain⟨rfl,q⟩:=q;simp only[Exit.inBlock];cases hb:d! _ id with
  |true=>rw[if_pos (a! hb)];exact q
  |false=>rw[if_neg (w! hb)];exact⟨rfl,q⟩
def aDk(b:F->Hp->Out)(fr:F)(h:Hp):dG b 0 fr h=.bad:=rfl
def anm(b:F->Hp->Out)(n:Nat)(fr:F)(h:Hp):dG b (n+1) fr h=(match b fr h with
  | .nor fr h=>dG b n fr h
  | .ret fr h=>.ret fr h
  | .ex i fr h=>.ex i fr h
  | .bad=>.bad):=rfl
def eU.loop{c:Code}{D:F->Hp->Out}(O:eU P keep G N c D)(n:Nat):eU P keep G N (.loop c) (dG D n):=by
 intro ro Y Df fr h M a w v at_;generalize H:dG D n fr h=out at v
 let I:Nat->Act->World->Prop:=λm a' w'=>∃j h' M',dG D m j h'=out/\At keep G N Df M' j h' a' w'/\Ext M h w M' h' w'
 intro b k cs Q hb z;have key:∀(n:Nat) a' w',I n a' w'->∃e C J,jq keep G N Df M h w out e C J/\ArrivesIn (j! P (iZ ro)) P (lone (b.atR a' (.code c:: .inLoop c::k)) cs w') b k cs e C J:=by
  intro n;induction n with
  |zero=>rintro a' w' ⟨j,h',M',e,-⟩;rw[aDk]at e;exact absurd e.symm v
  |succ n X=>
   rintro a' w' ⟨j,h',M',e,t,S⟩;rw[anm]at e;have W:c.wpIn (iZ ro) Y P (Exit.then (λa w=>I n a w) (jq keep G N Df M h w out)) a' w':=by
    cases e1:D j h' with
    |bad=>rw[e1]at e;exact absurd e.symm v
    |nor u L=>
     rw[e1]at e;refine wpIn_mono (O _ _ _ j h' M' a' w' (by rw[e1];simp) t) ?_;intro x a2 U q;rw[e1]at q;cases x<;>simp only[jq]at q;obtain⟨B,o,r⟩:=q;exact⟨u,L,B,e,o,S.trans r⟩
    |ret u L=>
     rw[e1]at e;refine wpIn_mono (O _ _ _ j h' M' a' w' (by rw[e1];simp) t) ?_;intro x a2 U q;rw[e1]at q;cases x<;>simp only[jq]at q;obtain⟨B,o,r⟩:=q;subst e;exact⟨B,o,S.trans r⟩
    |ex i u L=>
     rw[e1]at e;refine wpIn_mono (O _ _ _ j h' M' a' w' (by rw[e1];simp) t) ?_;intro x a2 U q;rw[e1]at q;cases x<;>simp only[jq]at q;obtain⟨rfl,B,o,r⟩:=q;subst e;exact⟨rfl,B,o,S.trans r⟩
   obtain⟨x,f,g,s,d⟩:=W b (.inLoop c::k) cs Q hb z;cases x with
   |normal=>
    obtain⟨Z,E,K,y,p⟩:=X f g s;exact⟨Z,E,K,y,.of_steps (StepsIn.trans d (.one (fenced_calm hb z rfl) stepR_inLoop)) p⟩
   |exit id=>exact⟨_,f,g,s,.pass (x:=.inLoop c) rfl (λ_ _=>.inl (by simp)) d⟩
   |goto l=>exact⟨_,f,g,s,.pass (x:=.inLoop c) rfl (λ_ _=>.inl (by simp)) d⟩
   |ret=>exact⟨_,f,g,s,.pass (x:=.inLoop c) rfl (λ_ _=>.inl (by simp)) d⟩
   |panic ch=>exact⟨_,f,g,s,.pass (x:=.inLoop c) rfl (λ_ _=>.inl (by simp)) d⟩
   |outgrown=>exact⟨_,f,g,s,.pass (x:=.inLoop c) rfl (λ_ _=>.inl (by simp)) d⟩
 obtain⟨x,a',w',s,d⟩:=key n a w ⟨fr,h,M,H,at_,.refl at_.rel⟩;exact⟨x,a',w',s,.of_steps (.one (fenced_calm hb z rfl) stepR_loop) d⟩
def yQ{b:Frame}{a:Act}{k:List Item}{cs:List Frame}{w:World}{c:Code}:step P (lone (b.atR a (.code (.scope c)::k)) cs w)=.next (lone (b.atR a (.code c:: .inScope c::k)) cs w):=
 step_lone_go (by simp[stepG,stepG.exec,Frame.atR])
def atp{b:Frame}{a:Act}{k:List Item}{cs:List Frame}{w:World}{c:Code}:step P (lone (b.atR a (.inScope c::k)) cs w)=.next (lone (b.atR a k) cs w):=
 step_lone_go (by simp[stepG,stepG.exec,Frame.atR])
def aCJ{ro:Option Nat}{n:Nat}{Q:Exit->Act->World->Prop}{a:Act}{w:World}{c:Code}(h:c.wpIn (iZ ro) n P (Exit.noGoto Q) a w):(Code.scope c).wpIn (iZ ro) n P Q a w:=by
 intro b k cs q hb o;have h0:(lone (b.atR a (.code (.scope c)::k)) cs w).fenced P (iZ ro):=fenced_calm hb o rfl;obtain⟨e,f,g,i,d⟩:=h b (.inScope c::k) cs q hb o;cases e with
 |normal=>exact⟨.normal,f,g,i,.head h0 yQ (StepsIn.trans d (.one (fenced_calm hb o rfl) atp))⟩
 |exit id=>
  have r:exitTo id (.inScope c::k)=exitTo id k:=by simp[exitTo]
  exact⟨.exit id,f,g,i,λu m=>.head h0 yQ (d.1 u (by rw[r];exact m)),λp m=>let ⟨j,s,t⟩:=d.2 p (by rw[r];exact m);⟨j,s,.head h0 yQ t⟩⟩
 |goto l=>exact i.elim
 |ret=>exact⟨_,f,g,i,.of_steps (.one h0 yQ) d⟩
 |panic ch=>exact⟨_,f,g,i,.of_steps (.one h0 yQ) d⟩
 |outgrown=>exact⟨_,f,g,i,.of_steps (.one h0 yQ) d⟩
def eU.scope{c:Code}{D:F->Hp->Out}(d:eU P keep G N c D):eU P keep G N (.scope c) D:=by
 intro ro n Df fr h M a w b at_;refine aCJ (wpIn_mono (d _ _ _ fr h M a w b at_) λx a' w' q=>?_);cases x<;>first|exact q|(revert q;cases D fr h<;>simp[jq])
def eU.nor{c:Code}(d:∀(ro:Option Nat) (n:Nat) (Q:Exit->Act->World->Prop) a w,Q .normal a w->c.wpIn (iZ ro) n P Q a w):eU P keep G N c .nor:=by
 intro ro n Df fr h M a w b at_;exact d _ _ _ _ _ ⟨M,at_,.refl at_.rel⟩
def eU.bad{c:Code}:eU P keep G N c (λ_ _=>.bad):=λ_ _ _ _ _ _ _ _ a _=>absurd rfl a
def avh(ops:Array Oper):(T! ops.size).filterMap (ops[·]?)=ops.toList:=by
 have:∀(n:Nat),n<=ops.size->(T! n).filterMap (ops[·]?)=ops.toList.take n:=by
  intro n;induction n with
  |zero=>intro _;rfl
  |succ n b=>
   intro hn;rw[List.range_succ,List.filterMap_append,b (by omega)];have a:n<ops.size:=by omega
   rw[v! (t! a),D!];rw[List.take_add_one,List.getElem?_eq_getElem (by simpa using a)];simp
 rw[this _ (r! _),List.take_of_length_le (by simp)]
def eU.region(d:∀f F,e f=some F->aG P G f F){id:Nat}{ops:Array Oper}(b:∀o∈ops.toList,qL G N o=true):eU P keep G N (.region id ops false) (pG P keep e ops ops.toList []):=by
 intro ro n Df fr h M a w c at_;refine wpIn_region (aC6 (λ_ _ _ h=>h) jq.aui (λo g=>vU (b o g)) _ _ _ ?_);refine aAf d b c _ [] fr h M a w (λi hi=>List.mem_range.1 hi) at_ (nM.nil M a) ?_;rw[avh]
def asi{id:Nat}{ops:Array Oper}{d:Bool}(h:codeOk G N (.region id ops d)=true):∀o∈ops.toList,∀c,o.op≠ .defer c:=λo a=>by
 simp only[codeOk,I!]at h;exact vU (h o a)
end
section
variable{P:Program}{G:Nat}{M:Mp}{h h':Hp}{w:World}{r:V}{keep:Nat->Bool}{N:Nat}{e:FuncId->Option Fun}
def auZ{t:TypeId}{d:TypeDesc}(a:P.underlying t=some d):(isAgg t).run P w=.ok (aqH d) w:=by
 simp only[isAgg,b!,run_underlying a,e!];cases d<;>rfl
def aDm{t:TypeId}{v:V}{c:Value}(q:Rel G M h w)(p:Rp M v c)(e:BR P t v h=.ok r h'):
  h'=h/\∃d,(do loadVar t (<-asAddr c):Sem Value).run P w=.ok d w/\Rp M r d:=by
 unfold BR at e;split at e
 ·rename_i d hd;split at e
  ·rename_i a;split at e
   ·rename_i ti g;obtain⟨i,o,rfl,e⟩:=l7 e;obtain⟨wr,cs,hi,e⟩:=gQ e;obtain⟨L,b,rfl⟩:=p.ptr;split at e
    ·rename_i l hl;cases e;obtain⟨xs,j,m,n,k⟩:=q.cells hi b hl;refine⟨rfl,.agg xs.toArray,?_,afs j n⟩;have:=run_loadCells_list (P:=P) w (L.at o) xs k
     rw[m]at this;simp only[asAddr,loadVar,b!,n!,e!,auZ hd,a];simp[sizeOf,typeInfo,g,this]
    ·cases e
   ·cases e
  ·rename_i a;obtain⟨i,o,rfl,e⟩:=l7 e;obtain⟨wr,cs,hi,e⟩:=gQ e;obtain⟨L,b,rfl⟩:=p.ptr;rw[nY]at e;split at e
   ·rename_i v s;cases e;obtain⟨x,j,f,_⟩:=q.cell hi b s;refine⟨rfl,x,?_,f⟩;simp only[asAddr,loadVar,b!,n!,e!,auZ hd,a];simp[run_load,j]
   ·cases e
 ·cases e
def FK(keep:Nat->Bool):Nat->List V->F->F
 |_,[],fr=>fr
 |i,v::l,fr=>(match keep i with|true=>FK keep (i+1) l (fr.set (some v) (Pos.of i))|false=>FK keep (i+1) l fr)
def bQ(P:Program):List ResultVar->F->Hp->(List V->R V)->R V
 | [],_,_,k=>k []
 | .tmp t::l,fr,h,k=>(match fr.get (Pos.of t) with|some v=>bQ P l fr h λvs=>k (v::vs)|none=>.bad)
 | .cell a t::l,fr,h,k=>(match fr.get (Pos.of a) with
  |some p=>(match BR P t p h with| .ok v _=>bQ P l fr h λvs=>k (v::vs)| .bad=>.bad)
  |none=>.bad)
def bT(vs:List V)(h:Hp):R V:=match vs with| [v]=>.ok v h|_=>.ok (.tuple (V.ofList vs)) h
def bV(P:Program)(a:List ResultVar):Out->R V
 | .nor fr h=>bQ P a fr h λvs=>bT vs h
 | .ret fr h=>bQ P a fr h λvs=>bT vs h
 |_=>.bad
def aY(P:Program)(keep:Nat->Bool)(N:Nat)(a:List ResultVar)(D:F->Hp->Out):Fun:=λargs h=>match k! args.length N with
 |true=>bV P a (D (FK keep 0 args .nil) h)
 |false=>.bad
def aa7(keep:Nat->Bool)(a:Act):∀(vs:List V) (i:Nat) (fr:F),(∀j v,vs[j]?=some v->Rp M v (a.tmps.getD (i+j) undef))->NM keep M fr a->NM keep M (FK keep i vs fr) a
 | [],_,_,_,c=>c
 |v::vs,i,fr,g,c=>by
  have b:∀j u,vs[j]?=some u->Rp M u (a.tmps.getD (i+1+j) undef):=λj u hj=>by
   have:=g (j+1) u (by simpa using hj);rwa[show i+(j+1)=i+1+j by omega]at this
  unfold FK;split
  ·rename_i k;refine aa7 keep a vs (i+1) _ b λt x d=>?_;by_cases f:t=i
   ·subst f;rw[T.oM]at d;cases d;exact⟨k,g 0 v rfl⟩
   ·rw[T.sU _ (λe=>f (Pos.afz e))]at d;exact c t x d
  ·exact aa7 keep a vs (i+1) _ b c
def au1(tmps:Array Value):ResultVar->Sem Value
 | .tmp t=>pure (tmps.getD t undef)
 | .cell a t=>do loadVar t (<-asAddr (tmps.getD a undef))
def aaJ(fn:Func)(tmps:Array Value):results fn tmps=(do
 let vs<-fn.results.mapM (au1 tmps)
 pure (if h:vs.size=1 then vs[0] else .tuple vs)):=rfl
def apW{fr:F}{a:Act}(g:Rel G M h w)(f:NM keep M fr a):∀(j:List ResultVar) (k:List V->R V),bQ P j fr h k=.ok r h'->
  ∃vs cs,k vs=.ok r h'/\cO M vs cs/\(j.mapM (au1 a.tmps)).run P w=.ok cs w
 | [],k,e=>⟨[],[],e,rfl,rfl⟩
 | .tmp t::l,k,e=>by
  unfold bQ at e;split at e
  ·rename_i v n;obtain⟨vs,cs,e1,c,b⟩:=apW g f l _ e;refine⟨v::vs,_::cs,e1,⟨_,_,(f t v n).2,c,rfl⟩,?_⟩;rw[K!];simp only[au1,b!,n!,e!,b]
  ·cases e
 | .cell x t::l,k,e=>by
  unfold bQ at e;split at e
  ·rename_i p m;split at e
   ·rename_i v o hl;obtain⟨_,d,hd,i⟩:=aDm g (f x p m).2 hl;obtain⟨vs,cs,e1,c,b⟩:=apW g f l _ e;refine⟨v::vs,d::cs,e1,⟨_,_,i,c,rfl⟩,?_⟩;rw[K!,b!];rw[show(au1 a.tmps (.cell x t)).run P w=.ok d w from hd];simp only[b!,n!,e!,b]
   ·cases e
  ·cases e
def Tc{fn:Func}{fr:F}{a:Act}(m:Rel G M h w)(l:NM keep M fr a)(e:bQ P fn.results.toList fr h (λvs=>bT vs h)=.ok r h'):
  h'=h/\∃c,(results fn a.tmps).run P w=.ok c w/\Rp M r c:=by
 obtain⟨vs,cs,e1,b,f⟩:=apW m l _ _ e;have i:=b.length;have j:(fn.results.mapM (au1 a.tmps)).run P w=.ok cs.toArray w:=by
  rw[Array.mapM_eq_mapM_toList];simp only[Sem.run_map,f];rfl
 unfold bT at e1;split at e1
 ·rename_i v;cases e1;obtain⟨x,xs,n,g,rfl⟩:=b;cases g;refine⟨rfl,x,?_,n⟩;rw[aaJ,b!,j];simp
 ·rename_i hn;cases e1;refine⟨rfl,.tuple cs.toArray,?_,au0 b⟩;rw[aaJ,b!,j];have d:cs.toArray.size≠1:=by
   intro k;have:vs.length=1:=by simp at k;omega
   obtain⟨v,rfl⟩:=List.length_eq_one_iff.1 this;exact hn v rfl
  simp[d] at*;simp[d]
def aAY{f:FuncId}{fn:Func}{c:Code}{D:F->Hp->Out}(C:P.funcs[f]?=some fn)(hn:(fn.name== "runtime.NumGoroutine")=false)(hb:fn.body=some c)(B:eU P keep G fn.ntmps c D):
  aG P G f (aY P keep fn.ntmps fn.results.toList D):=by
 intro args h r h' M w cargs e H b;have o:(callFunc f cargs.toArray).run P w=.ok (.enter f cargs.toArray) w:=by
  unfold callFunc;rw[b!,run_program];have u:¬fn.name= "runtime.NumGoroutine" :=by simpa using hn
  simp[C,u,hb]
 rw[o];simp only[Opq];unfold aY at e;split at e
 ·rename_i n;have n:=h! n;refine calls_of_wp C hb ?_;have E:=b.length
  have m:At keep G fn.ntmps [] M (FK keep 0 args .nil) h {tmps:=cargs.toArray++q! (fn.ntmps - cargs.toArray.size) undef,defers:= []} w:=by
   refine⟨H,aa7 keep _ args 0 _ (λj v hj=>?_) (λt v k=>by rw[T.get_nil]at k;cases k),by simp;omega,rfl⟩;obtain⟨x,g,y⟩:=b.get hj;have s:j<cargs.length:=by
    rcases Nat.lt_or_ge j cargs.length with p|p
    ·exact p
    ·rw[List.getElem?_eq_none p]at g;cases g
   have:(cargs.toArray++q! (fn.ntmps - cargs.toArray.size) undef).getD (0+j) undef=x:=by
    rw[c!,Array.getElem?_append_left (by simpa using s)];simp[g]
   simp only[this];exact y
  cases e1:D (FK keep 0 args .nil) h with
  |bad=>rw[e1]at e;cases e
  |ex i l z=>rw[e1]at e;cases e
  |nor l z=>
   rw[e1]at e;refine wp_mono (B.wp _ _ _ _ _ _ (by rw[e1];simp) m) ?_;intro x a' w' q;rw[e1]at q;cases x<;>simp only[jq]at q;obtain⟨M',a,g⟩:=q;obtain⟨rfl,v,k,d⟩:=Tc a.rel a.fr e;exact⟨a.plain,v,k,v,rfl,M',d,a.rel,g⟩
  |ret l z=>
   rw[e1]at e;refine wp_mono (B.wp _ _ _ _ _ _ (by rw[e1];simp) m) ?_;intro x a' w' q;rw[e1]at q;cases x<;>simp only[jq]at q;obtain⟨M',a,g⟩:=q;obtain⟨rfl,v,k,d⟩:=Tc a.rel a.fr e;exact⟨a.plain,v,k,v,rfl,M',d,a.rel,g⟩
 ·cases e
def aul(G:Nat)(fn:Func):Bool:=(match fn.body with|some c=>codeOk G fn.ntmps c|none=>false)&&!(fn.name== "runtime.NumGoroutine")
end
section
variable{P:Program}{M:Mp}{h:Hp}{w:World}{r:V}
def CJ(P:Program)(M:Mp)(w:World)(s:Sem Value)(o:Ob)(mk:Pos->V):Prop:=
 ∃c w' b n,s.run P w=.ok c w'/\w'.heap=w.heap.push b/\w'.os=w.os/\w'.tape=w.tape/\w'.output=w.output/\
  (∀N,M.le N->ku N ⟨w.heap.size,0,n⟩ w' o)/\∀(N:Mp) p,N p=some ⟨w.heap.size,0,n⟩->Rp N (mk p) c
def YV(vs:List V)(c:Array Value)(el:TypeId)(fr:Nat×Nat)(l:cO M vs (c.toList.take vs.length))(i:∀y∈c.toList,scalar y=true)
  (g:∀k,k<=c.size->¬(fr.1<=k/\k<fr.2)) (full:Bool) (b:full=true->c.size=vs.length) {w':World} (j:w'.heap=w.heap.push (.cells c el fr)):
  ∀N,M.le N->ku N ⟨w.heap.size,0,c.size⟩ w' (.cells (.rw el full) vs):=by
 intro N e;refine⟨c,el,fr,by rw[j];simp,rfl,λk v d=>?_,rfl,λk _ d=>g k d,λh=>⟨rfl,b h⟩⟩;obtain⟨x,a,f⟩:=l.get d;rw[List.getElem?_take]at a;split at a
 ·exact⟨x,by simpa using a,f.mono e,i x (z! a)⟩
 ·cases a
abbrev A:=Option (Ob×(Pos->V))
def QG(t:TypeId)(z:List V):A:=some (.cells (.rw t true) z,λp=>.ptr p 0)
def alN(t:TypeId)(x:V):A:=match ig x with|true=>some (.cells (.rw t true) x.cells,λp=>.ptr p 0)|false=>none
def eH(el:TypeId)(z:List V)(len:Nat)(qs:List (Nat×Nat×V)):A:=match Tt z qs with
 |some cs=>some (.cells (.rw el true) cs,λp=>.slice p 0 len (.kn len))
 |none=>none
def Ji(el:TypeId)(bt:Nat)(z:List V)(l c:V):A:=match l,c with
 | .int _ (.ofNat l),.int _ (.ofNat c)=>(match k! l c,k! (Nat.mul c bt) 140737488355328 with
  |true,true=>some (.cells (.rw el true) (times c z),λp=>.slice p 0 l (.kn c))
  |_,_=>none)
 |_,_=>none
def OO(x:V):A:=match x with
 | .str s=>(match x! s.length 4611686018427387904 with|true=>some (.bytes (u8s s),λp=>.slice p 0 s.length (.un 1))|false=>none)
 |_=>none
variable{o:Ob}{mk:Pos->V}
def aLz{t:TypeId}{x:V}{c:Value}(b:Rp M x c)(e:alN t x=some (o,mk)):CJ P M w (U! t c) o mk:=by
 unfold alN at e;split at e
 ·rename_i hn;cases e;have a:=b.cells;have hl:x.cells.length=c.cells.size:=by have:=a.length;simpa using this.symm
  refine⟨.pointer (some ⟨w.heap.size,0,none⟩),w.alloc (.cells c.cells t),_,_,?_,rfl,rfl,rfl,rfl,YV (w':=w.alloc (.cells c.cells t)) x.cells c.cells t (0,0) (by rw[hl,<-A!,i!];exact a) (Ar b hn) (by simp) true (λ_=>hl.symm) rfl,λN p d=>yE d 0⟩;simp[U!,newVar,newRow]
 ·cases e
def aLx{t:TypeId}{it:TypeInfo}{z:Value}(hit:P.info? t=some it)(d:it.zero=some z){zs:List V}(a:cO M zs z.cells.toList)(b:∀y∈z.cells.toList,scalar y=true)
  (e:QG t zs=some (o,mk)):CJ P M w (P! t true (.tuple #[])) o mk:=by
 cases e;have hl:=a.length;refine⟨.pointer (some ⟨w.heap.size,0,none⟩),w.alloc (.cells z.cells t),_,_,?_,rfl,rfl,rfl,rfl,YV (w':=w.alloc (.cells z.cells t)) zs z.cells t (0,0) (by rw[show zs.length=z.cells.toList.length from hl.symm,i!];exact a) b (by simp) true (λ_=>by rw[<-hl];simp) rfl,λN p c=>yE c 0⟩;simp[P!,zeroValue,typeInfo,hit,d,newVar,newRow]
def aqK{t el:TypeId}{ti:TypeInfo}{z:Value}(hd:P.underlying t=some (.slice el))(E:ElemOk P el ti z){len:Nat}(b:0<len)(c:len*ti.size<=16777216)
  {zs:List V} (l:cO M zs ((y! (len*ti.size)).map (z.cells[· % z.cells.size]!)).toList) {ps:List (Nat×V)} {qs:List (Nat×Nat×V)} {ys:Array (Nat×Value)}
  (g:placed (λi=>some (i*ti.size,ti.size)) ps=some qs) (v:ps.map (·.1)=ys.toList.map (·.1)) (x:cO M (ps.map (·.2)) (ys.toList.map (·.2))) (e:eH el zs len qs=some (o,mk)):
  CJ P M w (F! t len ys) o mk:=by
 unfold eH at e;split at e
 ·rename_i cs B;cases e;have j:∀y∈((y! (len*ti.size)).map (z.cells[· % z.cells.size]!)).toList,scalar y=true:=by
   intro y q;simp only[G!,N!]at q;obtain⟨i,_,rfl⟩:=q;have d:i % z.cells.size<z.cells.size:=Nat.mod_lt _ (by rw[E.cells];exact E.size);rw[getElem!_pos z.cells _ d];exact E.plain _ (by simp)
  obtain⟨a,s,n,u⟩:=aqu g B l j v x;have hl:=n.length;have f:¬len*ti.size=0:=by have:=Nat.mul_pos b E.size;omega
  exact⟨_,w.alloc (.cells a el),_,_,run_buildSlice w t el len ys a ti z hd E.info E.zero (by omega) f s,rfl,rfl,rfl,rfl,
   YV (w':=w.alloc (.cells a el)) cs a el (0,0) (by rw[show cs.length=a.toList.length from hl.symm,i!];exact n) u (by simp) true (λ_=>by rw[<-hl];simp) rfl,
   λN p g=>jh (o:=0) (k:=.kn len) (m:=len) g ⟨rfl,r! _⟩⟩
 ·cases e
def atw{t el:TypeId}{ti:TypeInfo}{z:Value}(hd:P.underlying t=some (.slice el))(E:ElemOk P el ti z){zs:List V}(v:cO M zs z.cells.toList)
  {l c:V} {a b:Value} (hl:Rp M l a) (H:Rp M c b) (e:Ji el ti.bytes zs l c=some (o,mk)):CJ P M w (Instr.makeSlice t a b) o mk:=by
 unfold Ji at e;split at e
 ·rename_i K x L d;cases hl.int;cases H.int;split at e
  ·rename_i C D;cases e;have u:x<=d:=h! C;have G:d*ti.bytes<=140737488355328:=h! D;have I:d<=d*ti.bytes:=Nat.le_mul_of_pos_right _ E.bytes;have j:(ti.bytes:Int)*(d:Int)<=281474976710656:=by
    have:((ti.bytes*d:Nat):Int)<=281474976710656:=by rw[Nat.mul_comm];omega
    rwa[Int.natCast_mul]at this
   have i:=run_make (P:=P) w t el ti z hd E.info E.zero K L (x:Int) (d:Int) (by omega) (by omega) j (by omega);simp only[Int.toNat_natCast]at i;have q:(madeCells z.cells (d*ti.size)).toList=(J! d z.cells.toList).flatten:=by
    unfold madeCells;rw[<-E.cells];exact FI z.cells d (by rw[E.cells];exact E.size)
   have g:=WA v d;have f:=g.length;exact⟨_,w.alloc (.cells (madeCells z.cells (d*ti.size)) el),_,_,i,rfl,rfl,rfl,rfl,
    YV (w':=w.alloc (.cells (madeCells z.cells (d*ti.size)) el)) (times d zs) (madeCells z.cells (d*ti.size)) el (0,0) (by rw[q,<-f,i!];exact g)
     (by
      intro y B;rw[q]at B;obtain⟨l,hl,s⟩:=List.mem_flatten.1 B;rw[(List.mem_replicate.1 hl).2]at s;exact E.plain y s) (by simp) true (λ_=>by rw[<-f,<-q];simp) rfl,
    λN p J=>jh (o:=0) (n:=x) (k:=.kn d) (m:=d) J ⟨rfl,u⟩⟩
  ·cases e
 ·cases e
def awJ{s d el:TypeId}(K:P.underlying s=some .string)(hd:P.underlying d=some (.slice el))(I:P.underlying el=some (.int .u8)){x:V}{a:Value}(L:Rp M x a)(e:OO x=some (o,mk)):
  CJ P M w (convert s d a) o mk:=by
 unfold OO at e;split at e
 ·rename_i l;obtain⟨hl,rfl⟩:=L.str;split at e
  ·rename_i y;have H:l.length<4611686018427387904:=by simpa[u!]using y
   cases e;have c:=run_bytes_of_string (P:=P) w s d el (bts l) K hd I;have f:=grownCap_ge w (bts l).size 0 el;have q:grownCap w (bts l).size 0 el<=9223372036854775807:=grownCap_le_maxLen _ _ _ _ (by rw[lZ];show _<=9223372036854775807;omega);generalize Q:grownCap w (bts l).size 0 el=C at c f q;have j:(bytesRow (bts l) C).toList=(l.map λb=>Value.int .u8 (.ofNat b))++J! (C - l.length) (.int .u8 0):=by
    simp only[bytesRow,Array.toList_append,G!,lZ,Array.toList_replicate];congr 1;simp only[bts,O!];apply List.map_congr_left;intro b hb;simp[Uk (hl b hb)]
   have G:(bytesRow (bts l) C).size=C:=by
    rw[<-A!,j];rw[lZ]at f;simp;omega
   have t:cO M (u8s l) (l.map λb=>Value.int .u8 (.ofNat b)):=by
    refine cO.mk (by simp[u8s]) (λi v hi=>?_);simp only[u8s,List.getElem?_map]at hi⊢;cases u:l[i]? with
    |none=>rw[u]at hi;cases hi
    |some b=>rw[u]at hi;cases hi;exact⟨_,rfl,gU M _ _⟩
   rw[lZ]at c f;exact⟨_,w.drew.alloc (.cells (bytesRow (bts l) C) el ((bytesRow (bts l) C).size,(bytesRow (bts l) C).size+1)),_,_,c,rfl,rfl,rfl,rfl,
    (λN D=>⟨_,_,_,by simp only[World.alloc];exact Array.getElem?_push_size,rfl,λk v B=>by
     obtain⟨x,g,E⟩:=t.get B;have z:(bytesRow (bts l) C)[0+k]?=some x:=by
      rw[Nat.zero_add,<-Array.getElem?_toList,j,List.getElem?_append_left (by rw[List.getElem?_eq_some_iff]at g;exact g.1)];exact g
     refine⟨x,z,E.mono D,?_⟩;obtain⟨b,_,rfl⟩:=N!.1 (z! g);rfl,λk _ B h=>by
      have O:(bytesRow (bts l) C).size<=k:=h.1;exact absurd B (by show ¬k<(bytesRow (bts l) C).size;omega)⟩),
    λN p J=>jh (o:=0) (n:=l.length) (k:=.un 1) (m:=C) J ⟨⟨f,q⟩,by show 0+0+C*1=(bytesRow (bts l) C).size;rw[G];omega⟩⟩
  ·cases e
 ·cases e
def auo(P:Program)(t:TypeId)(vs:List V):A:=match vs with
 | []=>(match P.underlying t with
  |some (.slice el)=>(match P.info? el with|some _=>some (.cells (.rw el true) [],λp=>.slice p 0 0 (.kn 0))|none=>none)
  |_=>none)
 |_=>none
def Jd(P:Program)(t:TypeId)(len:Nat)(is:List Nat)(vs:List V):A:=match P.underlying t with
 |some (.slice el)=>(match NU P el with
  |some ti=>(match ti.zero with
   |some z=>(match Je ((y! (len*ti.size)).map (z.cells[· % z.cells.size]!)).toList,placed (λi=>some (i*ti.size,ti.size)) (is.zip vs),x! 0 len,k! (len*ti.size) 16777216 with
    |some zs,some qs,true,true=>eH el zs len qs
    |_,_,_,_=>none)
   |none=>none)
  |none=>none)
 |_=>none
def Au(P:Program)(op:Op)(vs:List V):A:=
 match op with
 | .alloc t=>(match vs with| []=>(match aaz P t with|some z=>QG t z|none=>none)|_=>none)
 | .box t _=>(match vs with| [x]=>alN t x|_=>none)
 | .buildSlice t len ps=>(match d! len 0 with|true=>auo P t vs|false=>Jd P t len (ps.toList.map (·.1)) vs)
 | .makeSlice t _ _=>(match vs with
  | [l,c]=>(match P.underlying t with
   |some (.slice el)=>(match NU P el,aaz P el with|some ti,some z=>Ji el ti.bytes z l c|_,_=>none)
   |_=>none)
  |_=>none)
 | .makeMap _ r=>(match r,vs with
  |none,[]=>some (.map [],λp=>.map p)
  |_,_=>none)
 | .convert s d _=>(match vs with
  | [x]=>(match P.underlying s,P.underlying d with
   |some .string,some (.slice el)=>(match P.underlying el with|some (.int .u8)=>OO x|_=>none)
   |_,_=>none)
  |_=>none)
 |_=>none
def ayD(P:Program)(M:Mp)(w:World)(s:Sem Next)(o:Ob)(mk:Pos->V):Prop:=
 ∃c w' b n,s.run P w=.ok (.value c) w'/\w'.heap=w.heap.push b/\w'.os=w.os/\w'.tape=w.tape/\w'.output=w.output/\
  (∀N,M.le N->ku N ⟨w.heap.size,0,n⟩ w' o)/\∀(N:Mp) p,N p=some ⟨w.heap.size,0,n⟩->Rp N (mk p) c
def CJ.opq{s:Sem Value}(g:CJ P M w s o mk):ayD P M w (do pure (.value (<-s))) o mk:=by
 obtain⟨c,w',b,n,a,d⟩:=g;exact⟨c,w',b,n,by simp[a],d⟩
def ay7{op:Oper}{a:Act}{vs:List V}(g:cO M vs (op.op.operands.toList.map a.eval))(b:Au P op.op vs=some (o,mk)):
  ayD P M w (execOp a.eval op) o mk:=by
 obtain⟨dst,op,type,pos,after,guard⟩:=op;simp only at g b;cases op<;>simp only[Au]at b<;>try (cases b;done)
 case alloc t=>
  split at b
  ·split at b
   ·rename_i z f;obtain⟨it,Q,j,q,K⟩:=MF f;exact(aLx j q (K M).1 (K M).2 b).opq
   ·cases b
  ·cases b
 case box t x=>
  split at b
  ·exact(aLz (uP rfl g) b).opq
  ·cases b
 case makeMap t rs=>
  split at b
  ·cases b;have y:CJ P M w (L! t none) (.map []) (λp=>.map p):=⟨.map (some w.heap.size),w.alloc (.map #[] 0),_,0,by simp[L!],rfl,rfl,rfl,rfl,
    λN _=>⟨#[],0,(by show(w.heap.push _)[w.heap.size]?=_;simp),yG.nil N⟩,λN p C=>⟨rfl,_,C,rfl⟩⟩
   exact y.opq
  ·cases b
 case convert s d x=>
  split at b
  ·split at b
   ·rename_i el U hd;split at b
    ·rename_i B;exact(awJ U hd B (uP rfl g) b).opq
    ·cases b
   ·cases b
  ·cases b
 case makeSlice t l c=>
  split at b
  ·obtain⟨j,q⟩:=ops2 rfl g;split at b
   ·rename_i el hd;split at b
    ·rename_i ti z e f;obtain⟨Q,E⟩:=Am e;obtain⟨it,Z,L,O,W⟩:=MF f;rw[E.info]at L;cases L;rw[E.zero]at O;cases O;exact(atw hd E (W M).1 j q b).opq
    ·cases b
   ·cases b
  ·cases b
 case buildSlice t len ps=>
  have u:=g.length;have e1:(Op.buildSlice t len ps).operands.toList.map a.eval=ps.toList.map λp=>a.eval p.2:=by simp[Op.operands]
  rw[e1]at g u;have hl:vs.length=ps.toList.length:=by simpa using u.symm
  obtain⟨X,Y⟩:=zip_fst (ρ:=a.eval) ps.toList hl;have v:(ps.map λ(i,x)=>(i,a.eval x)).toList=ps.toList.map λp=>(p.1,a.eval p.2):=by simp
  have j:((ps.toList.map (·.1)).zip vs).map (·.1)=(ps.map λ(i,x)=>(i,a.eval x)).toList.map (·.1):=by rw[v];exact X
  have q:cO M (((ps.toList.map (·.1)).zip vs).map (·.2)) ((ps.map λ(i,x)=>(i,a.eval x)).toList.map (·.2)):=by
   rw[v,Y,O!];exact g
  split at b
  ·rename_i f;have f:=a! f;subst f;unfold auo at b;split at b
   ·have H:ps= #[]:=by
     cases ps with
     |mk l=>cases l with
      |nil=>rfl
      |cons x l=>simp at hl
    subst H;split at b
    ·rename_i el hd;split at b
     ·rename_i ti e;cases b;have y:CJ P M w (F! t 0 #[]) (.cells (.rw el true) []) (λp=>.slice p 0 0 (.kn 0)):=⟨.slice (some ⟨w.heap.size,0,none⟩) 0 0,w.alloc (.cells #[] el),_,_,aAd w t el ti hd e,rfl,rfl,rfl,rfl,
       YV (M:=M) (w':=w.alloc (.cells #[] el)) [] #[] el (0,0) rfl (by simp) (by simp) true (λ_=>rfl) rfl,λN p C=>jh (o:=0) (n:=0) (k:=.kn 0) (m:=0) C ⟨rfl,r! 0⟩⟩
      have J:=y.opq;rw[show(#[]:Array (Nat×Value))=(#[]:Array (Nat×Operand)).map (λx=>(x.1,a.eval x.2)) from by simp]at J;exact J
     ·cases b
    ·cases b
   ·cases b
  unfold Jd at b;split at b
  ·rename_i el hd;split at b
   ·rename_i ti e;obtain⟨Q,E⟩:=Am e;split at b
    ·rename_i z f;rw[E.zero]at f;cases f;split at b
     ·rename_i zs qs I S D G;exact(aqK hd E (by simpa[u!]using D) (h! G) (Aq I M).1 S j q b).opq
     ·cases b
    ·cases b
   ·cases b
  ·cases b
end
section
variable{P:Program}
def setH(h:Hp):R V->R V
 | .ok v _=>.ok v h
 | .bad=>.bad
def az9(h h':Hp)(v:V):setH h (.ok v h')=.ok v h:=rfl
def Pu(m:Hp->R V):Prop:=∀h g,m g=setH g (m h)
def Pu.ok(v:V):Pu λh=>.ok v h:=λ_ _=>rfl
def Pu.asInt{v:V}{k:IntKind->Int->Hp->R V}(b:∀a n,Pu (k a n)):Pu λh=>asInt v λa n=>k a n h:=by
 intro h g;unfold Vm.asInt;cases v<;>first|exact b _ _ h g|rfl
def Pu.tq{v:V}{k:Pos->Nat->Hp->R V}(b:∀a n,Pu (k a n)):Pu λh=>tq v λa n=>k a n h:=by
 intro h g;unfold Vm.tq;cases v<;>first|exact b _ _ h g|rfl
def Pu.mg{v:V}{k:Nat->Hp->R V}(b:∀n,Pu (k n)):Pu λh=>mg v λn=>k n h:=by
 intro h g;unfold Vm.mg;cases v<;>first|rfl|(rename_i a n;cases n<;>first|exact b _ h g|rfl)
def Pu.asBool{v:V}{k:Bool->Hp->R V}(a:∀n,Pu (k n)):Pu λh=>asBool v λn=>k n h:=by
 intro h g;unfold Vm.asBool;cases v<;>first|exact a _ h g|rfl
def Pu.iU{v:Option V}{d:Nat}{k:Nat->Hp->R V}(a:∀n,Pu (k n)):Pu λh=>iU v d λn=>k n h:=by
 intro h g;unfold Vm.iU;cases v<;>first|exact a _ h g|exact Pu.mg a h g
def au7(k:IntKind)(n:Int):Pu (iM k n):=by intro h g;rw[gZ,gZ,az9]
def afv(b:Bool):Pu (fQ b):=by intro h g;rw[gm,gm,az9]
def aKJ(c a b:V):Pu (auh c a b):=Pu.asBool λn=>by cases n<;>exact Pu.ok _
def ayO(x:V):Pu (aO x):=by
 intro h g;unfold aO;cases x<;>first|rfl|(rename_i fn _ _;cases fn<;>rfl)
def aC0(n:Nat)(x:V):Pu (bK n x):=by
 intro h g;unfold bK;cases x<;>first|rfl|(simp only[];generalize aDf n _=q;cases q<;>rfl)
def aSL(op:UnOp)(x:V):Pu (oUn op x):=by
 intro h g;unfold oUn;cases op<;>first|exact Pu.asInt (λ_ _=>au7 _ _) h g|exact Pu.asBool (λ_=>afv _) h g|rfl
def aHQ(op:BinOp)(k:IntKind)(a b:Int):Pu (YT op k a b):=by
 intro h g;simp only[YT,gZ,dM];(repeat' split)<;>first|rfl|simp_all[setH]
def aOZ(op:BinOp)(k:IntKind)(a b:Int):Pu (anu op k a b):=by
 intro h g;simp only[anu,gZ,gm,dM];(repeat' split)<;>first|rfl|simp_all[setH]
def aOV(op:BinOp)(a b:List Nat):Pu (amS op a b):=by
 intro h g;simp only[amS,gZ,gm,dM];(repeat' split)<;>first|rfl|simp_all[setH]
def aKI(c:EqC)(x y:V){k:Bool->Hp->R V}(a:∀b,Pu (k b)):Pu λh=>ahX c x y λb=>k b h:=by
 intro h g;simp only[ahX];(repeat' split)<;>first|rfl|exact a _ h g|(simp_all[setH];done)
def aO0(op:BinOp)(c:EqC)(x y:V):Pu (aH op c x y):=by
 intro h g;unfold aH;cases x<;>(try cases y)<;>simp only[]<;>first
  |rfl
  |exact aOV _ _ _ h g
  |(cases TS op<;>simp only[]<;>first
    |exact aHQ _ _ _ _ h g
    |(split<;>first|exact aOZ _ _ _ _ h g|rfl))
  |(cases op<;>first|rfl|exact aKI _ _ _ (λ_=>afv _) h g)
def aO1(op:BinOp)(t:TypeId)(a:Array Field)(x y:V):Pu (Zi P op t a x y):=by
 intro h g;unfold Zi;cases x<;>try rfl
 cases y<;>try rfl
 simp only[];split
 ·split
  ·cases op<;>first|exact afv _ h g|rfl
  ·rfl
 ·rfl
def WH{vs:List V}{k:V->Hp->R V}(a:∀x,Pu (k x)):Pu λh=>v1 vs λx=>k x h:=by
 intro h g;unfold v1;rcases vs with _|⟨x,_|⟨y,l⟩⟩<;>first|rfl|exact a _ h g
def aCY{vs:List V}{k:V->V->Hp->R V}(a:∀x y,Pu (k x y)):Pu λh=>v2 vs λx y=>k x y h:=by
 intro h g;unfold v2;rcases vs with _|⟨x,_|⟨y,_|⟨z,l⟩⟩⟩<;>first|rfl|exact a _ _ h g
def aSK{vs:List V}{k:V->V->V->Hp->R V}(a:∀x y z,Pu (k x y z)):Pu λh=>v3 vs λx y z=>k x y z h:=by
 intro h g;unfold v3;rcases vs with _|⟨x,_|⟨y,_|⟨z,_|⟨u,l⟩⟩⟩⟩<;>first|rfl|exact a _ _ _ h g
def aC2(k:IntKind)(x:V):Pu (jS k x):=Pu.asInt λ_ _=>au7 _ _
def aC1(x:V):Pu (Ux x):=by intro h g;unfold Ux;cases x<;>rfl
def au8(o:Nat)(x:V):Pu (aC o x):=by
 refine Pu.tq λi n h g=>?_;simp only[dM,setH]
def aKK(sz:Nat)(x i:V):Pu (aX sz x i):=by
 refine Pu.mg λk h g=>?_;simp only[dM];cases x<;>first|rfl|(simp only[];split<;>rfl)
def aKL(l sz:Nat)(x i:V):Pu (WJ l sz x i):=by
 refine Pu.mg λk=>Pu.tq λi o h g=>?_;simp only[dM];split<;>rfl
def aEO(x i:V):Pu (jY x i):=by
 refine Pu.mg λk h g=>?_;cases x<;>first|rfl|(simp only[];split<;>rfl)
def aiS(x:V)(lo hi:Option V):Pu (Gn x lo hi):=by
 intro h g;unfold Gn;cases x<;>try rfl
 rename_i s;exact Pu.iU (k:=λhh h=>iU lo 0 λl=>match k! hh s.length,k! l hh with|true,true=>.ok (.str (takeN (hh - l) (aum l s))) h|_,_=>.bad)
  (λhh=>Pu.iU (k:=λl h=>match k! hh s.length,k! l hh with|true,true=>.ok (.str (takeN (hh - l) (aum l s))) h|_,_=>.bad) λl=>by intro h g;simp only[];split<;>rfl) h g
def afu(sz:Nat)(i:Pos)(o len top:Nat)(lo hi:Option V)(m:Nat):Pu λh=>YS sz i o len top lo hi h m:=by
 unfold YS;refine Pu.iU λhh=>Pu.iU λl=>?_;intro h g;simp only[dM];split<;>rfl
def aCZ(sz:Nat)(i:Pos)(o len u:Nat)(lo hi:Option V):Pu λh=>ahW sz i o len u lo hi h:=by
 unfold ahW;refine Pu.iU λhh=>Pu.iU λl=>?_;intro h g;simp only[dM];split
 ·cases l
  ·rfl
  ·simp only[];split<;>rfl
 ·rfl
def aft(v:V)(lo hi:Option V)(m:Nat):Pu λh=>OB v lo hi h m:=by
 unfold OB;refine Pu.iU λhh=>Pu.iU λl=>?_;intro h g;split<;>rfl
def xw(sz:Nat)(x:V)(lo hi mx:Option V):Pu (fM sz x lo hi mx):=by
 intro h g;unfold fM;split
 ·unfold amW;cases x<;>try rfl
  ·rename_i i o len cap;cases cap with
   |kn c=>exact Pu.iU (λm=>afu sz i o len c lo hi m) h g
   |un u=>cases mx with
    |none=>exact aCZ sz i o len u lo hi h g
    |some a=>exact Pu.mg (λm=>afu sz i o len len lo hi m) h g
  ·exact Pu.iU (λm=>aft _ lo hi m) h g
  ·cases mx with
   |none=>exact aft _ lo hi 0 h g
   |some a=>rfl
 ·rfl
def aiT(sz len:Nat)(x:V)(lo hi mx:Option V):Pu (OG sz len x lo hi mx):=by
 intro h g;unfold OG;split
 ·exact Pu.tq (λi o=>Pu.iU λm=>afu sz i o len len lo hi m) h g
 ·rfl
def aHR(z:List V)(qs:List (Nat×Nat×V)):Pu (bW z qs):=by intro h g;unfold bW;split<;>rfl
def aOY(k:Nat)(x:V)(b:d! k 3=false):Pu (aZ k x):=by
 intro h g;unfold aZ;split
 ·rename_i a;unfold aDb;cases x<;>try rfl
  simp only[Gs]at a;rw[a]at b;cases b
 ·rfl
def aOW(x y:V):Pu (aDa x y):=Pu.asInt λ_ _=>Pu.asInt λ_ _=>by intro h g;split<;>rfl
def aOX(x y:V):Pu (avo x y):=Pu.asInt λ_ _=>Pu.asInt λ_ _=>by intro h g;split<;>rfl
def aIw(lo hi mx:Option Operand):Bool:=match lo,hi,mx with
 |some _,some _,none=>true
 |_,_,_=>false
def Uw(P:Program)(op:Op):Bool:=match op with
 | .move _| .assign _| .pick .. | .build .. | .nilCheck _| .binOp .. | .unOp .. | .makeInterface .. | .makeFunc .. | .fieldAddr .. | .indexAddr .. | .index .. | .extract .. =>true
 | .slice t _ lo hi mx=>(match P.underlying t with
  |some (.slice _)=>not (aIw lo hi mx)
  |_=>true)
 | .convert s d _=>(match P.underlying s,P.underlying d with
  |some _,some (.int _)=>true
  |some .string,some .string=>true
  |_,_=>false)
 | .call c=>(match c.callee with
  | .builtin b=>(match b with
   | .min| .max=>true
   | .len=>(match c.argTypes.toList with
    | [t]=>(match P.underlying t with|some d=>not (d! (yT d) 3)|none=>false)
    |_=>false)
   |_=>false)
  |_=>false)
 |_=>false
def pure_ok{e:FuncId->Option Fun}{op:Op}(vs:List V)(p:Uw P op=true):Pu (iQ P e op vs):=by
 cases op<;>simp only[Uw]at p<;>try (cases p;done)
 case move x=>exact WH λx=>Pu.ok x
 case assign x=>exact WH λx=>Pu.ok x
 case pick c a b=>exact aSK λc a b=>aKJ c a b
 case build t ps=>
  intro h g;simp only[iQ,aws]
  (repeat' split)<;>first|rfl|exact aHR _ _ h g|simp_all[setH]
 case nilCheck x=>exact WH λx=>ayO x
 case binOp op t H I l=>
  refine aCY λx y h g=>?_;simp only[aDH]
  (repeat' split)<;>first|rfl|exact aO1 _ _ _ _ _ h g|exact aO0 _ _ _ _ h g|simp_all[setH]
 case unOp op t x=>exact WH λx=>aSL op x
 case convert s d x=>
  refine WH λx h g=>?_;simp only[xR];split at p
  ·rename_i v w;simp only[v,w];exact aC2 _ _ h g
  ·rename_i v w;simp only[v,w];exact aC1 _ h g
  ·cases p
 case makeInterface t x=>
  refine WH λx h g=>?_;simp only[awq]
  (repeat' split)<;>first|rfl|simp_all[setH,avt]
 case makeFunc fn f c=>
  intro h g;simp only[iQ,aDG];split<;>first|rfl|(unfold eP;cases ap4 fn<;>rfl)
 case slice t x lo hi mx=>
  intro h g;simp only[iQ];cases vs with
  |nil=>rfl
  |cons x vs=>
   have fin:∀(o k j:Option V),(P.underlying t=none\/∀el,P.underlying t≠some (.slice el)\/(j≠none\/o=none\/k=none))->Pu (UK P t x o k j):=by
    intro o k j B h g;simp only[UK];split
    ·cases j with
     |none=>exact aiS _ _ _ h g
     |some _=>rfl
    ·rename_i el hd;split
     ·have E:j≠none\/o=none\/k=none:=by
       rcases B with q|q
       ·rw[hd]at q;cases q
       ·rcases q el with q|q
        ·exact absurd hd q
        ·exact q
      unfold ah8;cases j with
      |some m=>exact xw _ _ _ _ _ h g
      |none=>
       cases o with
       |none=>exact xw _ _ _ _ _ h g
       |some l=>
        cases k with
        |none=>exact xw _ _ _ _ _ h g
        |some hh=>rcases E with q|q|q<;>first|exact absurd rfl q|cases q
     ·rfl
    ·split
     ·exact aiT _ _ _ _ _ _ h g
     ·rfl
    ·rfl
   have C:P.underlying t=none\/∀el,P.underlying t≠some (.slice el)\/aIw lo hi mx=false:=by
    refine .inr λel=>?_;by_cases hd:P.underlying t=some (.slice el)
    ·rw[hd]at p;exact .inr (by simpa using p)
    ·exact .inl hd
   have go:∀(o k j:Option V),(o.isSome=lo.isSome)->(k.isSome=hi.isSome)->(j.isSome=mx.isSome)->Pu (UK P t x o k j):=by
    intro o k j a b c;refine fin o k j (C.imp id λq el=>(q el).imp id λq=>?_);cases o<;>cases k<;>cases j<;>cases lo<;>cases hi<;>cases mx<;>simp_all[aIw]
   show alm lo vs _=_;cases lo with
   |none=>
    cases hi with
    |none=>
     cases mx with
     |none=>exact go none none none rfl rfl rfl h g
     |some m=>cases vs with
      |nil=>rfl
      |cons a vs=>exact go none none (some a) rfl rfl rfl h g
    |some i=>cases vs with
     |nil=>rfl
     |cons a vs=>cases mx with
      |none=>exact go none (some a) none rfl rfl rfl h g
      |some m=>cases vs with
       |nil=>rfl
       |cons b vs=>exact go none (some a) (some b) rfl rfl rfl h g
   |some l=>cases vs with
    |nil=>rfl
    |cons a vs=>cases hi with
     |none=>cases mx with
      |none=>exact go (some a) none none rfl rfl rfl h g
      |some m=>cases vs with
       |nil=>rfl
       |cons b vs=>exact go (some a) none (some b) rfl rfl rfl h g
     |some i=>cases vs with
      |nil=>rfl
      |cons b vs=>cases mx with
       |none=>exact go (some a) (some b) none rfl rfl rfl h g
       |some m=>cases vs with
        |nil=>rfl
        |cons c vs=>exact go (some a) (some b) (some c) rfl rfl rfl h g
 case fieldAddr t x n=>
  refine WH λx h g=>?_;simp only[awr]
  (repeat' split)<;>first|rfl|exact au8 _ _ h g
 case indexAddr t x i=>
  refine aCY λx y h g=>?_;simp only[abk]
  (repeat' split)<;>first|rfl|exact aKK _ _ _ h g|exact aKL _ _ _ _ h g
 case index t x i=>
  refine aCY λx y h g=>?_;simp only[awp]
  (repeat' split)<;>first|rfl|exact aEO _ _ h g
 case extract x n=>exact WH λx=>aC0 n x
 case call c=>
  obtain⟨r,args,u⟩:=c;cases r with
  |invoke rc m=>cases p
  |value f=>cases p
  |builtin b=>
   intro h g;simp only[iQ,aup,aaS];cases b<;>simp only[]at p⊢<;>try (cases p;done)
   case len=>
    split at p
    ·rename_i t G;split at p
     ·rename_i d hd;rw[G];rcases vs with _|⟨x,_|⟨y,l⟩⟩<;>try rfl
      simp only[hd];have D:d! (yT d) 3=false:=by simpa using p
      cases d<;>first|exact aOY _ _ D h g|rfl
     ·cases p
    ·cases p
   all_goals (rcases vs with _|⟨x,_|⟨y,_|⟨z,l⟩⟩⟩<;>first|rfl|exact aOW _ _ h g|exact aOX _ _ h g)
def am5(P:Program)(op:Op):Bool:=match op with
 | .slice .. =>true
 | .load .. =>true
 | .lookup .. =>true
 | .convert s d _=>(match P.underlying s,P.underlying d with
  |some (.slice _),some .string=>true
  |_,_=>false)
 | .call c=>(match c.callee with
  | .builtin b=>(match b with
   | .len=>true
   |_=>false)
  |_=>false)
 |_=>Uw P op
def Pu.same{m:Hp->R V}(a:Pu m){h h':Hp}{v:V}(e:m h=.ok v h'):h'=h:=by
 have:=a h h;rw[e]at this;cases this;rfl
def aDo{a:V}{h h':Hp}{v:V}(e:aF a h=.ok v h'):h'=h:=by
 obtain⟨i,o,rfl,e⟩:=l7 e;obtain⟨w,cs,_,e⟩:=gQ e;split at e<;>cases e;rfl
def aDn{n:Nat}{a:V}{h h':Hp}{v:V}(e:bH n a h=.ok v h'):h'=h:=by
 obtain⟨i,o,rfl,e⟩:=l7 e;obtain⟨w,cs,_,e⟩:=gQ e;split at e<;>cases e;rfl
def atu{a:V}{h h':Hp}{v:V}(e:Af a h=.ok v h'):h'=h:=by
 unfold Af at e;split at e
 ·cases e;rfl
 ·cases e;rfl
 ·obtain⟨w,cs,_,e⟩:=gQ e;split at e
  ·split at e<;>cases e;rfl
  ·cases e
 ·cases e
def aE1{k:Nat}{a:V}{h h':Hp}{v:V}(e:aZ k a h=.ok v h'):h'=h:=by
 unfold aZ at e;split at e
 ·unfold aDb at e;split at e<;>first|(cases e;rfl)|cases e|skip
  split at e<;>first|(cases e;rfl)|cases e
 ·cases e
def aa2{ok b:Bool}{v r:V}{h h':Hp}(e:aie ok v b h=.ok r h'):h'=h:=by
 unfold aie at e;cases ok<;>cases e<;>rfl
def ayS{ok:Bool}{z m x r:V}{h h':Hp}(e:YZ ok z m x h=.ok r h'):h'=h:=by
 unfold YZ at e;split at e
 ·exact aa2 e
 ·split at e
  ·unfold ann at e;split at e
   ·split at e
    ·exact aa2 e
    ·exact aa2 e
   ·cases e
  ·cases e
 ·cases e
def awn{t:TypeId}{ok:Bool}{m x r:V}{h h':Hp}(e:Zg P t ok m x h=.ok r h'):h'=h:=by
 unfold Zg at e;split at e
 ·split at e
  ·split at e
   ·split at e
    ·unfold afB at e;split at e
     ·exact ayS e
     ·cases e
    ·cases e
   ·cases e
  ·cases e
 ·cases e
def afy{x:Option Operand}{vs:List V}{k:Option V->List V->R V}{h':Hp}{v:V}(e:alm x vs k=.ok v h'):∃u b,k u b=.ok v h':=by
 unfold alm at e;cases x with
 |none=>exact⟨_,_,e⟩
 |some o=>cases vs with
  |nil=>cases e
  |cons a vs=>exact⟨_,_,e⟩
def anP{x:V}{k:Nat->R V}{h':Hp}{v:V}(e:mg x k=.ok v h'):∃n,k n=.ok v h':=by
 obtain⟨_,n,_,e1⟩:=pJ e;exact⟨n,e1⟩
def aIv{sz:Nat}{i:Pos}{o u l hh:Nat}{h h':Hp}{v:V}(e:alg sz i o u l hh h=.ok v h'):h'=h:=by
 obtain⟨w,cs,_,e⟩:=gQ e;split at e
 ·rw[dM,dM]at e;cases e;rfl
 ·cases e
def ayK{sz:Nat}{x lo hi:V}{h h':Hp}{v:V}(e:ah7 sz x lo hi h=.ok v h'):h'=h:=by
 unfold ah7 at e;split at e
 ·split at e
  ·exact(xw _ _ _ _ _).same e
  ·obtain⟨hh,e⟩:=anP e;obtain⟨l,e⟩:=anP e;split at e
   ·exact(xw _ _ _ _ _).same e
   ·exact aIv e
 ·exact(xw _ _ _ _ _).same e
def ayY{t:TypeId}{x:V}{lo hi mx:Option V}{h h':Hp}{v:V}(e:UK P t x lo hi mx h=.ok v h'):h'=h:=by
 unfold UK at e;split at e
 ·split at e
  ·exact(aiS _ _ _).same e
  ·cases e
 ·split at e
  ·unfold ah8 at e;split at e
   ·exact(xw _ _ _ _ _).same e
   ·split at e
    ·split at e
     ·exact ayK e
     ·exact(xw _ _ _ _ _).same e
    ·exact(xw _ _ _ _ _).same e
  ·cases e
 ·split at e
  ·exact(aiT _ _ _ _ _ _).same e
  ·cases e
 ·cases e
def aEN{e:FuncId->Option Fun}{op:Op}{vs:List V}{h h':Hp}{v:V}(j:am5 P op=true)(a:iQ P e op vs h=.ok v h'):h'=h:=by
 by_cases k:Uw P op=true
 ·exact(pure_ok vs k).same a
 ·cases op<;>simp only[am5,Uw]at j k<;>try (first|(cases j;done)|exact absurd rfl k|exact absurd j k)
  case slice t x lo hi mx=>
   simp only[iQ]at a;split at a
   ·obtain⟨w,D,e1⟩:=afy a;obtain⟨u,B,e2⟩:=afy e1;obtain⟨z,n,o⟩:=afy e2;exact ayY o
   ·cases a
  case load t x=>
   simp only[iQ]at a;obtain⟨x,rfl,a⟩:=BJ a;unfold BR at a;split at a
   ·split at a
    ·split at a
     ·exact aDn a
     ·cases a
    ·exact aDo a
   ·cases a
  case lookup t m x ok=>
   simp only[iQ]at a;obtain⟨m,x,rfl,a⟩:=Wx a;exact awn a
  case convert s d x=>
   simp only[iQ]at a;obtain⟨x,rfl,a⟩:=BJ a;unfold xR at a;split at j
   ·rename_i p q;simp only[p,q]at a;split at a
    ·exact atu a
    ·cases a
   ·cases j
  case call c=>
   obtain⟨i,args,g⟩:=c;cases i with
   |invoke rc m=>cases j
   |value f=>cases j
   |builtin b=>
    cases b<;>simp only[]at j<;>try (cases j;done)
    simp only[iQ,aup]at a;rcases r:g.toList with _|⟨t,_|⟨t2,l⟩⟩<;>rw[r]at a<;>rcases vs with _|⟨x,_|⟨y,C⟩⟩<;>try (cases a;done)
    simp only[aaS]at a;split at a
    ·cases a;rfl
    ·exact aE1 a
    ·cases a
end
section
variable{G:Nat}{M M':Mp}{f b f' b':Hp}{w w':World}
def Rel.sub(r:Rel G M f w)(a:∀i o,b.get i=some o->f.get i=some o)(hn:f.next.nat<=b.next.nat):Rel G M b w:=
 ⟨λi o hi=>r.ob i o (a i o hi),λi hi=>r.fresh i (by omega),λi j o p L K hn hi hj=>r.sep i j o p L K hn (a _ _ hi) (a _ _ hj),r.gl⟩
def Rel.frame(r:Rel G M f w)(t:∀i o,b.get i=some o->f.get i=some o)(s:b.next=f.next)(E:Rel G M' b' w')(x:Ext M b w M' b' w')
  (y:∀i o,f'.get i=some o->b'.get i=some o\/(f.get i=some o/\b.get i=none)) (hn:f'.next=b'.next):
  Rel G M' f' w'/\Ext M f w M' f' w':=by
 have blk:∀i o L,f.get i=some o->b.get i=none->M i=some L->w'.heap[L.blk]?=w.heap[L.blk]?/\L.blk<w.heap.size:=by
  intro i o L hi hb c;obtain⟨H,d,g⟩:=r.ob i o hi;rw[c]at d;cases d;refine⟨x.same _ g.lt (λj p K hj U v e=>?_),g.lt⟩;have l:j≠i:=λe=>by subst e;rw[hb]at hj;cases hj
  exact r.sep j i p o K L l (t _ _ hj) hi U v c e
 have h:∀i o L,f.get i=some o->M' i=some L->M i=some L:=by
  intro i o L hi c;obtain⟨H,d,_⟩:=r.ob i o hi;have:=x.le _ _ d;rw[c]at this;cases this;exact d
 refine⟨⟨λi o hi=>?_,λi hi=>E.fresh i (by rw[<-hn];exact hi),λi j o p L K D hi hj g c v=>?_,E.gl⟩,⟨x.le,by rw[hn,<-s];exact x.next,x.os,x.tape,x.output,x.size,λk S N=>?_,λi o L hi g c=>?_,λi hi C=>?_,λi o L hi c=>?_,λi hi P=>x.none i (by rw[s];exact hi) P⟩⟩
 ·rcases y i o hi with a|⟨a,u⟩
  ·exact E.ob i o a
  ·obtain⟨L,c,g⟩:=r.ob i o a;exact⟨L,x.le _ _ c,(g.of_block (blk i o L a u c).1).mono x.le⟩
 ·rcases y i o hi with a|⟨a,u⟩<;>rcases y j p hj with m|⟨m,O⟩
  ·exact E.sep i j o p L K D a m g c v
  ·have B:=h j p K m v;have J:=(blk j p K m O B).2;rcases x.own i o L a g c with z|⟨i',o',H,a1,a2,a3,n⟩
   ·omega
   ·have l:i'≠j:=λe=>by subst e;rw[O]at a1;cases a1
    rw[<-n];exact r.sep i' j o' p H K l (t _ _ a1) m a2 a3 B
  ·have d:=h i o L a c;have J:=(blk i o L a u d).2;rcases x.all j p K m v with z|⟨j',W,K',a1,a3,n⟩
   ·omega
   ·have l:i≠j':=λe=>by subst e;rw[u]at a1;cases a1
    rw[<-n];exact r.sep i j' o W L K' l a (t _ _ a1) g d a3
  ·exact r.sep i j o p L K D a m g (h i o L a c) (h j p K m v)
 ·exact x.same k S λi o L hi g c=>N i o L (t _ _ hi) g c
 ·rcases y i o hi with a|⟨a,u⟩
  ·rcases x.own i o L a g c with z|⟨j,p,K,a1,a2,a3,n⟩
   ·exact .inl z
   ·exact .inr ⟨j,p,K,t _ _ a1,a2,a3,n⟩
  ·exact .inr ⟨i,o,L,a,g,h i o L a c,rfl⟩
 ·cases Q:f'.get i with
  |none=>rfl
  |some o=>
   rcases y i o Q with a|⟨a,_⟩
   ·have I:b.get i=none:=by
     cases hb:b.get i with
     |none=>rfl
     |some q=>have:=t i q hb;rw[C]at this;cases this
    have:=x.old i (by rw[s];exact hi) I;rw[a]at this;cases this
   ·rw[C]at a;cases a
 ·rcases y i o hi with a|⟨a,u⟩
  ·rcases x.all i o L a c with z|⟨j,p,K,a1,a3,n⟩
   ·exact .inl z
   ·exact .inr ⟨j,p,K,t _ _ a1,a3,n⟩
  ·exact .inr ⟨i,o,L,a,h i o L a c,rfl⟩
def Rel.putAt{h:Hp}(r:Rel G M h w){p:Pos}(H:M p=none)(D:p.nat<h.next.nat)(o:Ob)(c:Obj)(n:Nat)
  (J:w'.heap=w.heap.push c) (E:∀N:Mp,M.le N->ku N ⟨w.heap.size,0,n⟩ w' o):
  Rel G (M.add p ⟨w.heap.size,0,n⟩) (h.put p (some o)) w':=by
 have d:=Mp.UE H ⟨w.heap.size,0,n⟩;have y:∀k,k<w.heap.size->w'.heap[k]?=w.heap[k]?:=λk Q=>by rw[J,B!,if_neg (by omega)]
 refine⟨λi q hi=>?_,λi hi=>?_,λi j q s L K hn hi hj I a m=>?_,λg C=>?_⟩
 ·by_cases e:i=p
  ·subst e;rw[h.dU]at hi;cases hi;exact⟨_,M.fF _ _,E _ d⟩
  ·rw[h.dA e]at hi;obtain⟨L,a,t⟩:=r.ob i q hi;exact⟨L,by rw[M.gI e];exact a,(t.of_block (y _ t.lt)).mono d⟩
 ·have x:h.next.nat<=i.nat:=hi;have e:i≠p:=λe=>by rw[e]at x;omega
  rw[M.gI e];exact r.fresh i x
 ·by_cases z:i=p
  ·subst z;rw[M.fF]at a;cases a;have l:j≠i:=λe=>hn e.symm;rw[M.gI l]at m;rw[h.dA l]at hj;obtain⟨K',u,t⟩:=r.ob j s hj;rw[m]at u;cases u;have:=t.lt;show w.heap.size≠K.blk;omega
  ·rw[M.gI z]at a;rw[h.dA z]at hi;obtain⟨P,v,t⟩:=r.ob i q hi;rw[a]at v;cases v;by_cases l:j=p
   ·subst l;rw[M.fF]at m;cases m;have:=t.lt;show L.blk≠w.heap.size;omega
   ·rw[M.gI l]at m;rw[h.dA l]at hj;exact r.sep i j q s L K hn hi hj I a m
 ·obtain⟨O,B⟩:=r.gl g C;exact⟨O,d _ _ B⟩
def Ext.putAt{M₀:Mp}{h₀ h:Hp}{w₀:World}(x:Ext M₀ h₀ w₀ M h w){p:Pos}(v:M p=Option.none)(u:h₀.next.nat<=p.nat)(o:Ob)(c:Obj)(n:Nat)
  (t:w'.heap=w.heap.push c) (m:w'.os=w.os) (B:w'.tape=w.tape) (g:w'.output=w.output):
  Ext M₀ h₀ w₀ (M.add p ⟨w.heap.size,0,n⟩) (h.put p (some o)) w':=by
 have j:=Mp.UE v ⟨w.heap.size,0,n⟩;have z:w'.heap.size=w.heap.size+1:=by rw[t];simp
 have d:∀k,k<w.heap.size->w'.heap[k]?=w.heap[k]?:=λk r=>by rw[t,B!,if_neg (by omega)]
 have s:=x.size;refine⟨Mp.le_trans x.le j,x.next,m.trans x.os,B.trans x.tape,g.trans x.output,by omega,λk r l=>?_,λi q L hi y a=>?_,λi hi hn=>?_,λi q L hi a=>?_,λi hi hn=>?_⟩
 ·rw[d k (by omega)];exact x.same k r l
 ·by_cases e:i=p
  ·subst e;rw[M.fF]at a;cases a;exact .inl s
  ·rw[h.dA e]at hi;rw[M.gI e]at a;exact x.own i q L hi y a
 ·have e:i≠p:=λe=>by subst e;omega
  rw[h.dA e];exact x.old i hi hn
 ·by_cases e:i=p
  ·subst e;rw[M.fF]at a;cases a;exact .inl s
  ·rw[h.dA e]at hi;rw[M.gI e]at a;exact x.all i q L hi a
 ·have e:i≠p:=λe=>by subst e;omega
  rw[M.gI e];exact x.none i hi hn
def Rel.congr{h g:Hp}(r:Rel G M h w)(a:∀i,g.get i=h.get i)(hn:g.next=h.next):Rel G M g w:=
 r.sub (λi o hi=>by rw[<-a];exact hi) (by rw[hn];exact r! _)
def Ext.congr{M₀:Mp}{h₀ h g:Hp}{w₀:World}(x:Ext M₀ h₀ w₀ M h w)(a:∀i,g.get i=h.get i)(hn:g.next=h.next):Ext M₀ h₀ w₀ M g w:=
 ⟨x.le,by rw[hn];exact x.next,x.os,x.tape,x.output,x.size,x.same,λi o L hi=>x.own i o L (by rw[<-a];exact hi),λi hi h0=>by rw[a];exact x.old i hi h0,
  λi o L hi=>x.all i o L (by rw[<-a];exact hi),x.none⟩
def Uu(h:Hp):List (Pos×Ob)->Hp
 | []=>h
 |(p,o)::l=>(Uu h l).put p (some o)
def ayN(h:Hp)(l:List (Pos×Ob)):(Uu h l).next=h.next:=by
 induction l with
 |nil=>rfl
 |cons x l a=>exact a
def ap1{h:Hp}{l:List (Pos×Ob)}{i:Pos}(hn:∀o,(i,o)∉l):(Uu h l).get i=h.get i:=by
 induction l with
 |nil=>rfl
 |cons x l d=>
  have a:i≠x.1:=λe=>hn x.2 (by rw[e];simp);show((Uu h l).put x.1 (some x.2)).get i=_;rw[Hp.dA _ a];exact d λo c=>hn o (by simp[c])
def ap2{h:Hp}{l:List (Pos×Ob)}{i:Pos}{o:Ob}(a:(i,o)∈l)(hd:∀o',(i,o')∈l->o'=o):(Uu h l).get i=some o:=by
 induction l with
 |nil=>cases a
 |cons x l d=>
  show((Uu h l).put x.1 (some x.2)).get i=_;by_cases e:i=x.1
  ·subst e;rw[Hp.dU];rw[hd x.2 (by simp)]
  ·rw[Hp.dA _ e];refine d ?_ (λo' c=>hd o' (by simp[c]));rcases List.mem_cons.1 a with rfl|a
   ·exact absurd rfl e
   ·exact a
end
def auN:∀{s t:List Nat},jC s t=true->s=t
 | [],[],_=>rfl
 | [],b::y,h=>by cases h
 |a::x,[],h=>by cases h
 |a::x,b::y,h=>by
  simp only[jC]at h;split at h
  ·rename_i hb;rw[a! hb,auN h]
  ·cases h
def aIf{a b:Int}(h:nO a b=true):a=b:=by rw[Ah]at h;simpa using h
def eqV(a:V):V->Bool:=
 V.rec (motive:=λ_=>V->Bool)
  (λb x=>match x with| .bool c=>(match b,c with|true,true=>true|false,false=>true|_,_=>false)|_=>false)
  (λk n x=>match x with| .int h l=>(match d! (kix k) (kix h) with|true=>nO n l|false=>false)|_=>false)
  (λs x=>match x with| .str t=>jC s t|_=>false)
  (λi o x=>match x with| .ptr j p=>(match i.eq j with|true=>d! o p|false=>false)|_=>false)
  (λx=>match x with| .dn=>true|_=>false)
  (λi o n c x=>match x with
   | .slice j p m d=>(match i.eq j,d! o p,d! n m with
    |true,true,true=>(match c,d with| .kn a,.kn b=>d! a b| .un a,.un b=>d! a b|_,_=>false)
    |_,_,_=>false)
   |_=>false)
  (λx=>match x with| .aP=>true|_=>false)
  (λx=>match x with| .emp=>true|_=>false)
  (λi x=>match x with| .map j=>i.eq j|_=>false)
  (λx=>match x with| .jT=>true|_=>false)
  (λ_ _ _ _ _ _=>false)
  (λx=>match x with| .gV=>true|_=>false)
  (λt _ e x=>match x with| .iface u w=>(match d! t u with|true=>e w|false=>false)|_=>false)
  (λx=>match x with| .oL=>true|_=>false)
  (λ_ e x=>match x with| .agg w=>e w|_=>false)
  (λ_ e x=>match x with| .tuple w=>e w|_=>false)
  (λx=>match x with| .nil=>true|_=>false)
  (λ_ _ f g x=>match x with| .cons u w=>(match f u with|true=>g w|false=>false)|_=>false)
  a
def sV:∀{a b:V},eqV a b=true->a=b:=by
 intro a;induction a with
 |bool b=>intro x h;cases x<;>first|(cases h;done)|(rename_i c;cases b<;>cases c<;>first|rfl|cases h)
 |int k n=>
  intro x h;cases x<;>try (cases h;done)
  rename_i q r;simp only[eqV]at h;split at h
  ·rename_i p;rw[MN p,aIf h]
  ·cases h
 |str s=>intro x h;cases x<;>first|(cases h;done)|(rename_i t;rw[auN h])
 |ptr i o=>
  intro x h;cases x<;>try (cases h;done)
  simp only[eqV]at h;split at h
  ·rename_i hi;rw[Pos.eq_iff.1 hi,a! h]
  ·cases h
 |dn=>intro x h;cases x<;>first|(cases h;done)|rfl
 |slice i o n c=>
  intro x h;cases x<;>try (cases h;done)
  simp only[eqV]at h;split at h
  ·rename_i j l m;rw[Pos.eq_iff.1 j,a! l,a! m];split at h
   ·rw[a! h]
   ·rw[a! h]
   ·cases h
  ·cases h
 |aP=>intro x h;cases x<;>first|(cases h;done)|rfl
 |emp=>intro x h;cases x<;>first|(cases h;done)|rfl
 |map i=>intro x h;cases x<;>first|(cases h;done)|(rw[Pos.eq_iff.1 h])
 |jT=>intro x h;cases x<;>first|(cases h;done)|rfl
 |func fn a b e f=>intro x h;cases h
 |gV=>intro x h;cases x<;>first|(cases h;done)|rfl
 |iface t v d=>
  intro x h;cases x<;>try (cases h;done)
  simp only[eqV]at h;split at h
  ·rename_i g;rw[a! g,d h]
  ·cases h
 |oL=>intro x h;cases x<;>first|(cases h;done)|rfl
 |agg a d=>intro x h;cases x<;>first|(cases h;done)|(rw[d h])
 |tuple a d=>intro x h;cases x<;>first|(cases h;done)|(rw[d h])
 |nil=>intro x h;cases x<;>first|(cases h;done)|rfl
 |cons a b e f=>
  intro x h;cases x<;>try (cases h;done)
  simp only[eqV]at h;split at h
  ·rename_i g;rw[e g,f h]
  ·cases h
end Go.Vm
