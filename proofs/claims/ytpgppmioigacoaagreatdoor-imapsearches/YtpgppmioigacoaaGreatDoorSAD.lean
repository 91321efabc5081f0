/- Lemmas. No conditions. -/
import Derived.Test.YtpgppmioigacoaaGreatDoorSAC
import Derived.Scope
import Derived.RangeFuncRecord
import Derived.RangeFuncCalls
set_option linter.all false
open Nat renaming eq_of_beq_eq_true→a!,beq→d!,le_of_ble_eq_true→h!,ble→k!,le_refl→r!,blt_eq→u!,ne_of_beq_eq_false→w!,blt→x!
open Go.Sem renaming run_bind→b!,run_pure→n!
open Array renaming getD_eq_getD_getElem?→c!,replicate→q!,getElem?_eq_getElem→t!,range→y!,length_toList→A!,getElem?_push→B!,toList_map→G!
open Go.Result renaming andThen_ok→e!
open Go.Region renaming wanted→g!
open List renaming take_length→i!,filterMap_cons_some→v!,mem_of_getElem?→z!,filterMap_nil→D!,all_eq_true→I!,replicate→J!,mapM_cons→K!,mem_map→N!,map_map→O!,range→T!
open Go.Machine renaming fenced→j!
open Go.Fence renaming wide→l!
open Go.Oper renaming upon→o!,wp→M!,uponIn→Q!
open Bool renaming and_eq_true→p!,false_eq_true→E!
open Go.Instr renaming buildSlice→F!,makeMap→L!,alloc→P!,box→U!
noncomputable section
namespace Go.Vm
section
variable{P:Program}{G:Nat}{M:Mp}{h h':Hp}{w:World}
abbrev F:=T V
abbrev Env:=List (Nat×V)
inductive Out where
 |nor (fr:F) (h:Hp)
 |ret (fr:F) (h:Hp)
 |ex (i:Nat) (fr:F) (h:Hp)
 |bad
def dA(t:Nat):Env->Option V
 | []=>none
 |(u,v)::l=>(match d! t u with|true=>some v|false=>dA t l)
def gt(p:Pos)(fr:F)(k:V->Out):Out:=match fr.get p with|some v=>k v|none=>.bad
def Xk(t:Nat)(env:Env)(fr:F)(k:V->Env->Out):Out:=match dA t env with
 |some v=>k v env
 |none=>gt (Pos.of t) fr λv=>k v ((t,v)::env)
def Z7(x:Operand)(env:Env)(fr:F)(k:V->Env->Out):Out:=match x with
 | .tmp t=>Xk t env fr k
 | .const c=>(match const c with|some v=>k v env|none=>.bad)
 | .global g=>k (.ptr (Pos.of g) 0) env
 | .func f=>k (.func (.func f) .nil .nil) env
def ahe:List Operand->Env->F->(List V->Env->Out)->Out
 | [],env,_,k=>k [] env
 |x::l,env,fr,k=>Z7 x env fr λv env=>ahe l env fr λvs env=>k (v::vs) env
def bnd(m:Hp->R V)(h:Hp)(k:V->Hp->Out):Out:=match m h with| .ok v h=>k v h| .bad=>.bad
def aCz(keep:Nat->Bool)(d:Nat)(v:V)(fr:F)(k:F->Out):Out:=match keep d with
 |true=>k (fr.set (some v) (Pos.of d))
 |false=>k fr
def wE(keep:Nat->Bool)(d:Option Nat)(v:V)(env:Env)(fr:F)(k:Env->F->Out):Out:=match d with
 |none=>k env fr
 |some d=>aCz keep d v fr λfr=>k ((d,v)::env) fr
def opK(P:Program)(keep:Nat->Bool)(e:FuncId->Option Fun)(o:Oper)(env:Env)(fr:F)(h:Hp)(k:Env->F->Hp->Out):Out:=
 ahe o.op.operands.toList env fr λvs env=>bnd (iK P e o.op vs) h λv h=>wE keep o.dst v env fr λenv fr=>k env fr h
def ae2(v:V)(b:Bool)(yes no:Out):Out:=match v with
 | .bool c=>(match b,c with|true,true=>yes|false,false=>yes|_,_=>no)
 | .tuple _=>no
 |_=>.bad
def ou(P:Program)(keep:Nat->Bool)(e:FuncId->Option Fun)(ops:Array Oper):List Oper->Env->F->Hp->Out
 | [],_,fr,h=>.nor fr h
 |o::l,env,fr,h=>(match o.guard with
  |none=>opK P keep e o env fr h (ou P keep e ops l)
  |some (j,b)=>(match (ops[j]?).bind (·.dst) with
   |none=>.bad
   |some d=>Xk d env fr λv env=>ae2 v b (opK P keep e o env fr h (ou P keep e ops l)) (wE keep o.dst V.undef env fr λenv fr=>ou P keep e ops l env fr h)))
def aC(a b:F->Hp->Out)(fr:F)(h:Hp):Out:=match a fr h with
 | .nor fr h=>b fr h
 | .ret fr h=>.ret fr h
 | .ex i fr h=>.ex i fr h
 | .bad=>.bad
def apG(c:Operand)(a b:F->Hp->Out)(fr:F)(h:Hp):Out:=Z7 c [] fr λv _=>match v with
 | .bool t=>(match t with|true=>a fr h|false=>b fr h)
 |_=>.bad
def bI(id:Nat)(b:F->Hp->Out)(fr:F)(h:Hp):Out:=match b fr h with
 | .nor fr h=>.nor fr h
 | .ret fr h=>.ret fr h
 | .ex i fr h=>(match d! i id with|true=>.nor fr h|false=>.ex i fr h)
 | .bad=>.bad
def dI(b:F->Hp->Out)(n:Nat):F->Hp->Out:=
 Nat.rec (motive:=λ_=>F->Hp->Out) (λ_ _=>.bad) (λ_ a fr h=>match b fr h with
  | .nor fr h=>a fr h
  | .ret fr h=>.ret fr h
  | .ex i fr h=>.ex i fr h
  | .bad=>.bad) n
def NV(keep:Nat->Bool)(M:Mp)(fr:F)(a:Act):Prop:=∀t v,fr.get (Pos.of t)=some v->keep t=true/\Rp M v (a.tmps.getD t undef)
def jY(M:Mp)(env:Env)(a:Act):Prop:=∀t v,dA t env=some v->Rp M v (a.tmps.getD t undef)
def NV.mono{keep:Nat->Bool}{M N:Mp}(b:M.le N){fr:F}{a:Act}(c:NV keep M fr a):NV keep N fr a:=λt v d=>⟨(c t v d).1,(c t v d).2.mono b⟩
def jY.mono{M N:Mp}(b:M.le N){env:Env}{a:Act}(c:jY M env a):jY N env a:=λt v d=>(c t v d).mono b
def jY.nil(M:Mp)(a:Act):jY M [] a:=λt v b=>by cases b
def jv(t u:Nat)(v:V)(env:Env):dA t ((u,v)::env)=if t=u then some v else dA t env:=by
 simp only[dA];split
 ·rename_i hb;rw[if_pos (a! hb)]
 ·rename_i hb;rw[if_neg (w! hb)]
def jY.cons{env:Env}{a:Act}(c:jY M env a){t:Nat}{v:V}(d:Rp M v (a.tmps.getD t undef)):jY M ((t,v)::env) a:=λu x b=>by
 rw[jv]at b;split at b
 ·rename_i h;subst h;cases b;exact d
 ·exact c u x b
def vF{a:Act}{d:Nat}{c:Value}{t:Nat}(hd:d<a.tmps.size):(a.put (some d) c).tmps.getD t undef=if t=d then c else a.tmps.getD t undef:=by
 simp only[Act.put,c!];by_cases e:t=d
 ·subst e;rw[if_pos rfl,Array.getElem?_setIfInBounds_self_of_lt hd];rfl
 ·rw[if_neg e,Array.getElem?_setIfInBounds_ne (Ne.symm e)]
structure At (keep:Nat->Bool) (G N:Nat) (Df:List Deferred) (M:Mp) (fr:F) (h:Hp) (a:Act) (w:World):Prop where
 rel:Rel G M h w
 fr:NV keep M fr a
 size:a.tmps.size=N
 plain:a.defers=Df
def iw(keep:Nat->Bool)(G N:Nat)(Df:List Deferred)(M:Mp)(h:Hp)(w:World):Out->Exit->Act->World->Prop
 | .nor fr h',.normal,a,w'=>∃M',At keep G N Df M' fr h' a w'/\Ext M h w M' h' w'
 | .ret fr h',.ret,a,w'=>∃M',At keep G N Df M' fr h' a w'/\Ext M h w M' h' w'
 | .ex i fr h',.exit j,a,w'=>j=i/\∃M',At keep G N Df M' fr h' a w'/\Ext M h w M' h' w'
 |_,_,_,_=>False
def iw.trans{keep:Nat->Bool}{N:Nat}{Df:List Deferred}{M':Mp}{w':World}(x:Ext M h w M' h' w'){o:Out}{e:Exit}{a:Act}{v:World}(q:iw keep G N Df M' h' w' o e a v):iw keep G N Df M h w o e a v:=by
 cases o<;>cases e<;>simp only[iw]at q⊢
 ·obtain⟨b,p,y⟩:=q;exact⟨b,p,x.trans y⟩
 ·obtain⟨b,p,y⟩:=q;exact⟨b,p,x.trans y⟩
 ·obtain⟨rfl,b,p,y⟩:=q;exact⟨rfl,b,p,x.trans y⟩
def iP(ro:Option Nat):Fence:={l! with round:=ro}
def ah4{ro:Option Nat}{n:Nat}{P:Program}{f:FuncId}{args:Array Value}{w:World}{R:Ending->World->Prop}:CallsIn (iP ro) n P f args w R↔Calls P f args w R:=
 (show CallsIn (iP ro) n P f args w R↔CallsIn l! n P f args w R from by cases ro<;>exact Iff.rfl).trans callsIn_wide
def aFZ{n:Nat}{P:Program}{c:Code}{Q:Exit->Act->World->Prop}{a:Act}{w:World}:c.wpIn (iP none) n P Q a w↔c.wp P Q a w:=wpIn_wide (n:=n)
def axR{ro:Option Nat}{P:Program}{m m':Machine}:StepsIn (j! P (iP ro)) P m m'↔Steps P m m':=
 (show StepsIn (j! P (iP ro)) P m m'↔StepsIn (j! P l!) P m m' from by cases ro<;>exact Iff.rfl).trans stepsIn_wide
def dS(P:Program)(keep:Nat->Bool)(G N:Nat)(c:Code)(D:F->Hp->Out):Prop:=
 ∀(ro:Option Nat) (n:Nat) (Df:List Deferred) fr h M a w,D fr h≠ .bad->At keep G N Df M fr h a w->c.wpIn (iP ro) n P (iw keep G N Df M h w (D fr h)) a w
def dS.wp{P:Program}{keep:Nat->Bool}{G N:Nat}{c:Code}{D:F->Hp->Out}(d:dS P keep G N c D)(Df:List Deferred)(fr:F)(h:Hp)(M:Mp)(a:Act)(w:World)(b:D fr h≠ .bad)(at_:At keep G N Df M fr h a w):c.wp P (iw keep G N Df M h w (D fr h)) a w:=
 (aFZ (n:=0)).1 (d none 0 Df fr h M a w b at_)
def iw.amj{keep:Nat->Bool}{G N:Nat}{Df:List Deferred}{M:Mp}{h:Hp}{w:World}{out:Out}:¬LetsOut (iw keep G N Df M h w out):=λ⟨a,w',q⟩=>by
 cases out<;>exact q
def aoT{keep:Nat->Bool}{t:Nat}{env:Env}{fr:F}{a:Act}{k:V->Env->Out}{out:Out}(hb:out≠ .bad)(f:NV keep M fr a)(c:jY M env a)(e:Xk t env fr k=out):
  ∃v b,k v b=out/\Rp M v (a.tmps.getD t undef)/\jY M b a:=by
 unfold Xk at e;split at e
 ·rename_i v d;exact⟨v,env,e,c t v d,c⟩
 ·unfold gt at e;split at e
  ·rename_i v d;have:=(f t v d).2;exact⟨v,_,e,this,c.cons this⟩
  ·exact absurd e.symm hb
def ahf{keep:Nat->Bool}{N:Nat}{Df:List Deferred}{x:Operand}{env:Env}{fr:F}{a:Act}{k:V->Env->Out}{out:Out}(hb:out≠ .bad)(at_:At keep G N Df M fr h a w)(i:∀g,x=.global g->g<G)(d:jY M env a)(e:Z7 x env fr k=out):
  ∃v b,k v b=out/\Rp M v (a.eval x)/\jY M b a:=by
 cases x with
 |tmp t=>exact aoT hb at_.fr d e
 |const c=>
  simp only[Z7]at e;split at e
  ·rename_i v l;exact⟨v,env,e,UB l M,d⟩
  ·exact absurd e.symm hb
 |global g=>
  obtain⟨n,j⟩:=at_.rel.gl g (i g rfl);refine⟨_,env,e,?_,d⟩;have:=yL j 0
  exact this
 |func f=>exact⟨_,env,e,⟨rfl,.func f,[],[],rfl,⟨rfl,rfl⟩,rfl,rfl,rfl⟩,d⟩
def aks{keep:Nat->Bool}{N:Nat}{Df:List Deferred}{fr:F}{a:Act}{out:Out}(hb:out≠ .bad)(at_:At keep G N Df M fr h a w):∀{l:List Operand} {env:Env} {k:List V->Env->Out},(∀x∈l,∀g,x=.global g->g<G)->jY M env a->ahe l env fr k=out->
  ∃vs b,k vs b=out/\bY M vs (l.map a.eval)/\jY M b a
 | [],env,k,_,d,e=>⟨[],env,e,rfl,d⟩
 |x::l,env,k,m,d,e=>by
  obtain⟨v,b,e1,n,f⟩:=ahf hb at_ (m x (by simp)) d e;obtain⟨vs,c,e2,j,i⟩:=aks hb at_ (λy o=>m y (by simp[o])) f e1;exact⟨v::vs,c,e2,⟨_,_,n,j,rfl⟩,i⟩
def aI3:Op->Bool
 | .defer _=>false
 |_=>true
def nZ(G N:Nat)(o:Oper):Bool:=
 (match o.dst with|some d=>x! d N|none=>true)&&((o.op.operands.toList.all λx=>match x with| .global g=>x! g G|_=>true)&&aI3 o.op)
def codeOk(G N:Nat):Code->Bool
 | .region _ ops _=>ops.toList.all (nZ G N)
 | .seq a b=>codeOk G N a&&codeOk G N b
 | .cond c a b=>(match c with| .global g=>x! g G|_=>true)&&(codeOk G N a&&codeOk G N b)
 | .block _ b| .loop b| .scope b=>codeOk G N b
 |_=>true
def TD{keep:Nat->Bool}{N:Nat}{Df:List Deferred}{d:Option Nat}{v:V}{env:Env}{fr:F}{k:Env->F->Out}{out:Out}{a:Act}{c:Value}(at_:At keep G N Df M fr h a w)(n:jY M env a)(hd:∀x,d=some x->x<N)(q:Rp M v c)(e:wE keep d v env fr k=out):
  ∃f j,k f j=out/\At keep G N Df M j h (a.put d c) w/\jY M f (a.put d c):=by
 cases d with
 |none=>exact⟨env,fr,e,at_,n⟩
 |some d=>
  have i:d<a.tmps.size:=by rw[at_.size];exact hd d rfl
  have o:(a.put (some d) c).defers=Df:=at_.plain;have p:(a.put (some d) c).tmps.size=N:=by simp[Act.put,at_.size]
  have g:jY M ((d,v)::env) (a.put (some d) c):=λt x b=>by
   rw[vF i];rw[jv]at b;split at b
   ·rename_i ht;cases b;rw[if_pos ht];exact q
   ·rename_i ht;rw[if_neg ht];exact n t x b
  simp only[wE,aCz]at e;split at e
  ·rename_i hk;refine⟨_,_,e,⟨at_.rel,λt x b=>?_,p,o⟩,g⟩;rw[vF i];by_cases ht:t=d
   ·subst ht;rw[T.oW]at b;cases b;exact⟨hk,by rw[if_pos rfl];exact q⟩
   ·have l:Pos.of t≠Pos.of d:=λe=>ht (Pos.aeJ e);rw[T.tJ _ l]at b;rw[if_neg ht];exact at_.fr t x b
  ·rename_i hk;refine⟨_,_,e,⟨at_.rel,λt x b=>?_,p,o⟩,g⟩;obtain⟨m,r⟩:=at_.fr t x b;have ht:t≠d:=λe=>by subst e;rw[m]at hk;cases hk
   rw[vF i,if_neg ht];exact⟨m,r⟩
def xP{N:Nat}{o:Oper}(h:nZ G N o=true):∀x,o.dst=some x->x<N:=by
 intro x a;simp only[nZ,a,p!]at h;simpa[u!]using h.1
def aib{N:Nat}{o:Oper}(h:nZ G N o=true):∀x∈o.op.operands.toList,∀g,x=.global g->g<G:=by
 intro x b g a;simp only[nZ,p!,I!]at h;have:=h.2.1 x b;subst a;simpa[u!]using this
def FP{o:Oper}{a:Act}{K:Act->World->Prop}{Q:Exit->Act->World->Prop}{post:Value->World->Prop}(b:Opq P post ((execOp a.eval o).run P w))(hk:∀c w',post c w'->K (a.put o.dst c) w'):o.wp P a w K Q:=by
 unfold M!;revert b;generalize (execOp a.eval o).run P w=d;intro b;cases d with
 |ok n w'=>
  cases n<;>simp only[Opq]at b<;>simp only[o!]
  ·exact hk _ _ b
  ·exact hk _ _ b
  ·exact b.mono λe i ⟨c,f,g⟩=>by subst f;exact hk _ _ g
 |halt x w'=>exact b.elim
def Uj{keep:Nat->Bool}{N:Nat}{Df:List Deferred}{e:FuncId->Option Fun}(y:∀f F,e f=some F->aH P G f F){o:Oper}(x:nZ G N o=true){env:Env}{fr:F}{a:Act}{k:Env->F->Hp->Out}{out:Out}(hb:out≠ .bad)(at_:At keep G N Df M fr h a w)(B:jY M env a)
  (e0:opK P keep e o env fr h k=out) {K:Act->World->Prop} {Q:Exit->Act->World->Prop}
  (z:∀b g h' a' w' M',k b g h'=out->At keep G N Df M' g h' a' w'->jY M' b a'->Ext M h w M' h' w'->K a' w'):o.wp P a w K Q:=by
 unfold opK at e0;obtain⟨vs,t,e1,r,m⟩:=aks hb at_ (aib x) B e0;unfold bnd at e1;split at e1
 ·rename_i v u p;refine FP (LG y r at_.rel p) ?_;rintro c w' ⟨M',C,q,s⟩;have i:At keep G N Df M' fr u a w':=⟨q,at_.fr.mono s.le,at_.size,at_.plain⟩
  obtain⟨d,l,e2,j,n⟩:=TD i (m.mono s.le) (xP x) C e1;exact z d l u _ _ M' e2 j n s
 ·exact absurd e1.symm hb
def aoZ{keep:Nat->Bool}{N:Nat}{Df:List Deferred}{e:FuncId->Option Fun}(O:∀f F,e f=some F->aH P G f F){ops:Array Oper}(I:∀o∈ops.toList,nZ G N o=true){out:Out}(hb:out≠ .bad):
  ∀(l:List Nat) (env:Env) (fr:F) (h:Hp) (M:Mp) (a:Act) (w:World),(∀i∈l,i<ops.size)->At keep G N Df M fr h a w->jY M env a->ou P keep e ops (l.filterMap (ops[·]?)) env fr h=out->
   wpOps P ops (iw keep G N Df M h w out) l a w:=by
 intro l;induction l with
 |nil=>
  intro env fr h M a w _ at_ B e0;simp only[D!,ou]at e0;subst e0;exact⟨M,at_,.refl at_.rel⟩
 |cons i l ih=>
  intro env fr h M a w hl at_ B e0;have hi:i<ops.size:=hl i (by simp);have ho:ops[i]?=some ops[i]:=t! hi;rw[wpOps_cons];unfold wpOp;simp only[ho];rw[v! ho]at e0;have t:=I ops[i] (by simp);have next:∀m y h' a' w' M',ou P keep e ops (l.filterMap (ops[·]?)) m y h'=out->At keep G N Df M' y h' a' w'->jY M' m a'->Ext M h w M' h' w'->wpOps P ops (iw keep G N Df M h w out) l a' w':=by
   intro m y h' a' w' M' e1 at1 p hx;have:=ih m y h' M' a' w' (λj hj=>hl j (by simp[hj])) at1 p e1;have mono:∀(l:List Nat) (a:Act) (J:World) (Q K:Exit->Act->World->Prop),(∀e a w,Q e a w->K e a w)->wpOps P ops Q l a J->wpOps P ops K l a J:=by
    intro l;induction l with
    |nil=>intro a J Q K k g;exact k _ _ _ g
    |cons j l u=>
     intro a J Q K k g;simp only[wpOps]at g⊢;split
     ·rename_i hn;simp only[hn]at g;exact u _ _ _ _ k g
     ·rename_i o hn;simp only[hn]at g;split
      ·rename_i H;simp only[H,if_true]at g;rcases g with g|⟨h1,a2,w2,h2⟩
       ·refine .inl ?_;unfold M! at g⊢;revert g;generalize (execOp a.eval o).run P J=Y;intro g;cases Y with
        |ok n w'=>
         cases n<;>simp only[o!]at g⊢<;>first
          |exact u _ _ _ _ k g
          |exact Calls.mono g (λe aa B=>by
            cases e<;>first
             |exact u _ _ _ _ k B
             |exact k _ _ _ B
             |(obtain⟨a3,w3,h3⟩:=B;exact⟨a3,w3,k _ _ _ h3⟩))
          |exact Rows.mono g (λ_ _ B=>u _ _ _ _ k B)
        |halt x w'=>cases x<;>simp only[o!]at g⊢<;>first|exact k _ _ _ g|exact g
       ·exact .inr ⟨h1,a2,w2,k _ _ _ h2⟩
      ·rename_i H;simp only[H]at g;exact u _ _ _ _ k g
   exact mono _ _ _ _ _ (λe a v q=>iw.trans hx q) this
  unfold ou at e0;split at e0
  ·rename_i L;have g:g! ops[i] (yielded ops a.tmps)=true:=by simp[g!,L]
   simp only[g,if_true];exact .inl (Uj O t hb at_ B e0 next)
  ·rename_i j b L;split at e0
   ·exact absurd e0.symm hb
   ·rename_i d hd;obtain⟨v,Z,e1,hv,p⟩:=aoT hb at_.fr B e0;unfold ae2 at e1;split at e1
    ·rename_i c;have s:=hv.bool;have X:yielded ops a.tmps j=some c:=by
      unfold yielded;rw[hd];simp only[Option.bind_some];rw[c!]at s;cases k:a.tmps[d]? with
      |none=>rw[k]at s;cases s
      |some z=>rw[k]at s;simp at s;subst s;rfl
     have g:g! ops[i] (yielded ops a.tmps)=(c==b):=by
      simp only[g!,L,X];cases c<;>cases b<;>rfl
     split at e1
     ·simp only[g,beq_self_eq_true,if_true];exact .inl (Uj O t hb at_ p e1 next)
     ·simp only[g,beq_self_eq_true,if_true];exact .inl (Uj O t hb at_ p e1 next)
     ·rename_i U W;have S:(c==b)=false:=by
       cases c<;>cases b<;>first|rfl|exact absurd rfl (U rfl)|exact absurd rfl (W rfl)
      simp only[g,S,E!,if_false];obtain⟨r,D,e2,C,E⟩:=TD at_ p (xP t) (lH M) e1;exact next r D h _ _ M e2 C E (.refl at_.rel)
    ·obtain⟨xs,_,s⟩:=hv.tuple;have X:yielded ops a.tmps j=none:=by
      unfold yielded;rw[hd];simp only[Option.bind_some];rw[c!]at s;cases k:a.tmps[d]? with
      |none=>rfl
      |some z=>rw[k]at s;simp at s;subst s;rfl
     have g:g! ops[i] (yielded ops a.tmps)=false:=by
      simp only[g!,L,X];cases b<;>rfl
     simp only[g,E!,if_false];obtain⟨r,D,e2,C,E⟩:=TD at_ p (xP t) (lH M) e1;exact next r D h _ _ M e2 C E (.refl at_.rel)
    ·exact absurd e1.symm hb
def qH{N:Nat}{o:Oper}(h:nZ G N o=true):∀c,o.op≠ .defer c:=by
 intro c a;simp only[nZ,p!]at h;have:=h.2.2;rw[a]at this;cases this
def aDZ{ro:Option Nat}{n:Nat}{o:Oper}{K K':Act->World->Prop}{Q i:Exit->Act->World->Prop}(hk:∀a w,K a w->K' a w)(d:∀e a w,Q e a w->i e a w)(hd:∀c,o.op≠ .defer c){a:Act}{w:World}
  (h:o.wp P a w K Q):o.wpIn (iP ro) n P a w K' i:=by
 refine⟨λ_ _=>trivial,?_⟩;rw[Oper.semAt_eq _ _ _ hd];unfold M! at h;revert h;generalize (execOp a.eval o).run P w=g;intro h;cases g with
 |ok nx w'=>
  cases nx<;>simp only[o!,Q!]at h⊢
  case value=>exact hk _ _ h
  case skip=>exact hk _ _ h
  case defer=>exact hk _ _ h
  case enter=>
   refine⟨λf=>by simp[iP,l!]at f,ah4.2 (Calls.mono h ?_)⟩;intro e j b;cases e
   ·exact hk _ _ b
   ·exact d _ _ _ b
   ·obtain⟨a3,l,k⟩:=b;exact⟨a3,l,d _ _ _ k⟩
  case row=>
   refine⟨λf=>by simp[iP,l!]at f,λc cs _=>?_⟩;obtain⟨v,j,r2,s2⟩:=h c cs;exact⟨v,j,hk _ _ r2,axR.2 s2⟩
 |halt x w'=>cases x<;>simp only[o!,Q!]at h⊢<;>first|exact d _ _ _ h|exact h
def atx{ro:Option Nat}{n:Nat}{ops:Array Oper}{Q g:Exit->Act->World->Prop}(j:∀e a w,Q e a w->g e a w)(hl:¬LetsOut Q)(hd:∀o∈ops.toList,∀c,o.op≠ .defer c):
  ∀(l:List Nat) (a:Act) (w:World),wpOps P ops Q l a w->wpOpsIn (iP ro) n P ops g l a w:=by
 intro l;induction l with
 |nil=>intro a w h;exact j _ _ _ h
 |cons i rest f=>
  intro a w h;simp only[wpOps]at h;simp only[wpOpsIn];cases b:ops[i]? with
  |none=>rw[b]at h;exact f a w h
  |some o=>
   rw[b]at h;simp only[]at h⊢;have k:o∈ops.toList:=by have:=Array.mem_of_getElem? b;simpa using this
   split
   ·rename_i d;rw[if_pos d]at h;rcases h with h|⟨_,h⟩
    ·exact aDZ f j (hd o k) h
    ·exact absurd h hl
   ·rename_i d;rw[if_neg d]at h;exact⟨λ_ _=>trivial,f _ _ h⟩
def ama{ro:Option Nat}{n id:Nat}{ops:Array Oper}{Q:Exit->Act->World->Prop}{a:Act}{w:World}(b:P.follows .mixedOrders=true)(d:¬LetsOut Q)(hd:∀o∈ops.toList,∀c,o.op≠ .defer c)
  (h:wpAny P .any ops Q ops.size (q! ops.size false) a {w with drawn:=w.drawn+1}):(Code.region id ops true).wpIn (iP ro) n P Q a w:=
 wpIn_region_draw λt=>atx (λ_ _ _ h=>h) d hd _ _ _ (by
  simp only[Region.schedule,b,Bool.true_or,if_true];exact wpAny_sound ops.size t _ a _ h)
end
section
variable{P:Program}{G:Nat}{M:Mp}{h h':Hp}{w:World}{keep:Nat->Bool}{N:Nat}{Df:List Deferred}{e:FuncId->Option Fun}
def dS.seq{c d:Code}{D E:F->Hp->Out}(k:dS P keep G N c D)(hd:dS P keep G N d E):dS P keep G N (.seq c d) (aC D E):=by
 intro ro n Df fr h M a w b at_;refine wpIn_seq ?_;unfold aC at b⊢;cases e1:D fr h with
 |bad=>rw[e1]at b;exact absurd rfl b
 |nor f j=>
  rw[e1]at b;refine wpIn_mono (k _ _ _ fr h M a w (by rw[e1];simp) at_) ?_;intro x a' w' q;rw[e1]at q;cases x<;>simp only[iw]at q;obtain⟨M',g,l⟩:=q;exact wpIn_mono (hd _ _ _ f j M' a' w' b g) λx a w q=>iw.trans l q
 |ret f j=>
  refine wpIn_mono (k _ _ _ fr h M a w (by rw[e1];simp) at_) ?_;intro x a' w' q;rw[e1]at q;cases x<;>simp only[iw]at q;exact q
 |ex i f j=>
  refine wpIn_mono (k _ _ _ fr h M a w (by rw[e1];simp) at_) ?_;intro x a' w' q;rw[e1]at q;cases x<;>simp only[iw]at q;exact q
def dS.cond{x:Operand}{c d:Code}{D E:F->Hp->Out}(i:∀g,x=.global g->g<G)(f:dS P keep G N c D)(hd:dS P keep G N d E):dS P keep G N (.cond x c d) (apG x D E):=by
 intro ro n Df fr h M a w b at_;obtain⟨v,env,e1,j,-⟩:=ahf b at_ i (jY.nil M a) (rfl:apG x D E fr h=_);rw[<-e1]at b⊢;cases v<;>simp only[ne_eq,not_true_eq_false]at b⊢;rename_i t;have ht:=j.bool;cases t
 ·exact wpIn_cond_false ht (hd _ _ _ fr h M a w b at_)
 ·exact wpIn_cond_true ht (f _ _ _ fr h M a w b at_)
def dS.block{id:Nat}{c:Code}{D:F->Hp->Out}(f:dS P keep G N c D):dS P keep G N (.block id c) (bI id D):=by
 intro ro n Df fr h M a w b at_;refine wpIn_block ?_;unfold bI at b⊢;cases e1:D fr h with
 |bad=>rw[e1]at b;exact absurd rfl b
 |nor d g=>
  refine wpIn_mono (f _ _ _ fr h M a w (by rw[e1];simp) at_) ?_;intro x a' w' q;rw[e1]at q;cases x<;>simp only[iw]at q;exact q
 |ret d g=>
  refine wpIn_mono (f _ _ _ fr h M a w (by rw[e1];simp) at_) ?_;intro x a' w' q;rw[e1]at q;cases x<;>simp only[iw]at q;exact q
 |ex i d g=>
  refine wpIn_mono (f _ _ _ fr h M a w (by rw[e1];simp) at_) ?_;intro x a' w' q;rw[e1]at q;cases x<;>simp only[iw]at q;obtain⟨rfl,q⟩:=q;simp only[Exit.inBlock];cases hb:d! _ id with
  |true=>rw[if_pos (a! hb)];exact q
  |false=>rw[if_neg (w! hb)];exact⟨rfl,q⟩
def aCo(b:F->Hp->Out)(fr:F)(h:Hp):dI b 0 fr h=.bad:=rfl
def amm(b:F->Hp->Out)(n:Nat)(fr:F)(h:Hp):dI b (n+1) fr h=(match b fr h with
  | .nor fr h=>dI b n fr h
  | .ret fr h=>.ret fr h
  | .ex i fr h=>.ex i fr h
  | .bad=>.bad):=rfl
def dS.loop{c:Code}{D:F->Hp->Out}(O:dS P keep G N c D)(n:Nat):dS P keep G N (.loop c) (dI D n):=by
 intro ro Y Df fr h M a w v at_;generalize H:dI D n fr h=out at v
 let I:Nat->Act->World->Prop:=λm a' w'=>∃j h' M',dI D m j h'=out/\At keep G N Df M' j h' a' w'/\Ext M h w M' h' w'
 intro b k cs Q hb z;have key:∀(n:Nat) a' w',I n a' w'->∃e C J,iw keep G N Df M h w out e C J/\ArrivesIn (j! P (iP ro)) P (lone (b.atR a' (.code c:: .inLoop c::k)) cs w') b k cs e C J:=by
  intro n;induction n with
  |zero=>rintro a' w' ⟨j,h',M',e,-⟩;rw[aCo]at e;exact absurd e.symm v
  |succ n X=>
   rintro a' w' ⟨j,h',M',e,t,S⟩;rw[amm]at e;have W:c.wpIn (iP ro) Y P (Exit.then (λa w=>I n a w) (iw keep G N Df M h w out)) a' w':=by
    cases e1:D j h' with
    |bad=>rw[e1]at e;exact absurd e.symm v
    |nor u L=>
     rw[e1]at e;refine wpIn_mono (O _ _ _ j h' M' a' w' (by rw[e1];simp) t) ?_;intro x a2 U q;rw[e1]at q;cases x<;>simp only[iw]at q;obtain⟨B,o,r⟩:=q;exact⟨u,L,B,e,o,S.trans r⟩
    |ret u L=>
     rw[e1]at e;refine wpIn_mono (O _ _ _ j h' M' a' w' (by rw[e1];simp) t) ?_;intro x a2 U q;rw[e1]at q;cases x<;>simp only[iw]at q;obtain⟨B,o,r⟩:=q;subst e;exact⟨B,o,S.trans r⟩
    |ex i u L=>
     rw[e1]at e;refine wpIn_mono (O _ _ _ j h' M' a' w' (by rw[e1];simp) t) ?_;intro x a2 U q;rw[e1]at q;cases x<;>simp only[iw]at q;obtain⟨rfl,B,o,r⟩:=q;subst e;exact⟨rfl,B,o,S.trans r⟩
   obtain⟨x,f,g,s,d⟩:=W b (.inLoop c::k) cs Q hb z;cases x with
   |normal=>
    obtain⟨Z,E,K,y,p⟩:=X f g s;exact⟨Z,E,K,y,.of_steps (StepsIn.trans d (.one (fenced_calm hb z rfl) stepR_inLoop)) p⟩
   |exit id=>exact⟨_,f,g,s,.pass (x:=.inLoop c) rfl (λ_ _=>.inl (by simp)) d⟩
   |goto l=>exact⟨_,f,g,s,.pass (x:=.inLoop c) rfl (λ_ _=>.inl (by simp)) d⟩
   |ret=>exact⟨_,f,g,s,.pass (x:=.inLoop c) rfl (λ_ _=>.inl (by simp)) d⟩
   |panic ch=>exact⟨_,f,g,s,.pass (x:=.inLoop c) rfl (λ_ _=>.inl (by simp)) d⟩
   |outgrown=>exact⟨_,f,g,s,.pass (x:=.inLoop c) rfl (λ_ _=>.inl (by simp)) d⟩
 obtain⟨x,a',w',s,d⟩:=key n a w ⟨fr,h,M,H,at_,.refl at_.rel⟩;exact⟨x,a',w',s,.of_steps (.one (fenced_calm hb z rfl) stepR_loop) d⟩
def zk{b:Frame}{a:Act}{k:List Item}{cs:List Frame}{w:World}{c:Code}:step P (lone (b.atR a (.code (.scope c)::k)) cs w)=.next (lone (b.atR a (.code c:: .inScope c::k)) cs w):=
 step_lone_go (by simp[stepG,stepG.exec,Frame.atR])
def asL{b:Frame}{a:Act}{k:List Item}{cs:List Frame}{w:World}{c:Code}:step P (lone (b.atR a (.inScope c::k)) cs w)=.next (lone (b.atR a k) cs w):=
 step_lone_go (by simp[stepG,stepG.exec,Frame.atR])
def aBN{ro:Option Nat}{n:Nat}{Q:Exit->Act->World->Prop}{a:Act}{w:World}{c:Code}(h:c.wpIn (iP ro) n P (Exit.noGoto Q) a w):(Code.scope c).wpIn (iP ro) n P Q a w:=by
 intro b k cs p hb m;have h0:(lone (b.atR a (.code (.scope c)::k)) cs w).fenced P (iP ro):=fenced_calm hb m rfl;obtain⟨e,f,g,i,d⟩:=h b (.inScope c::k) cs p hb m;cases e with
 |normal=>exact⟨.normal,f,g,i,.head h0 zk (StepsIn.trans d (.one (fenced_calm hb m rfl) asL))⟩
 |exit id=>
  have q:exitTo id (.inScope c::k)=exitTo id k:=by simp[exitTo]
  exact⟨.exit id,f,g,i,λt hk=>.head h0 zk (d.1 t (by rw[q];exact hk)),λo hk=>let ⟨j,r,s⟩:=d.2 o (by rw[q];exact hk);⟨j,r,.head h0 zk s⟩⟩
 |goto l=>exact i.elim
 |ret=>exact⟨_,f,g,i,.of_steps (.one h0 zk) d⟩
 |panic ch=>exact⟨_,f,g,i,.of_steps (.one h0 zk) d⟩
 |outgrown=>exact⟨_,f,g,i,.of_steps (.one h0 zk) d⟩
def dS.scope{c:Code}{D:F->Hp->Out}(d:dS P keep G N c D):dS P keep G N (.scope c) D:=by
 intro ro n Df fr h M a w b at_;refine aBN (wpIn_mono (d _ _ _ fr h M a w b at_) λx a' w' q=>?_);cases x<;>first|exact q|(revert q;cases D fr h<;>simp[iw])
def dS.nor{c:Code}(d:∀(ro:Option Nat) (n:Nat) (Q:Exit->Act->World->Prop) a w,Q .normal a w->c.wpIn (iP ro) n P Q a w):dS P keep G N c .nor:=by
 intro ro n Df fr h M a w b at_;exact d _ _ _ _ _ ⟨M,at_,.refl at_.rel⟩
def dS.bad{c:Code}:dS P keep G N c (λ_ _=>.bad):=λ_ _ _ _ _ _ _ _ a _=>absurd rfl a
def aeI(ops:Array Oper):(T! ops.size).filterMap (ops[·]?)=ops.toList:=by
 have:∀(n:Nat),n<=ops.size->(T! n).filterMap (ops[·]?)=ops.toList.take n:=by
  intro n;induction n with
  |zero=>intro _;rfl
  |succ n b=>
   intro hn;rw[List.range_succ,List.filterMap_append,b (by omega)];have a:n<ops.size:=by omega
   rw[v! (t! a),D!];rw[List.take_add_one,List.getElem?_eq_getElem (by simpa using a)];simp
 rw[this _ (r! _),List.take_of_length_le (by simp)]
def dS.region(d:∀f F,e f=some F->aH P G f F){id:Nat}{ops:Array Oper}(b:∀o∈ops.toList,nZ G N o=true):dS P keep G N (.region id ops false) (ou P keep e ops ops.toList []):=by
 intro ro n Df fr h M a w c at_;refine wpIn_region (atx (λ_ _ _ h=>h) iw.amj (λo g=>qH (b o g)) _ _ _ ?_);refine aoZ d b c _ [] fr h M a w (λi hi=>List.mem_range.1 hi) at_ (jY.nil M a) ?_;rw[aeI]
def arE{id:Nat}{ops:Array Oper}{d:Bool}(h:codeOk G N (.region id ops d)=true):∀o∈ops.toList,∀c,o.op≠ .defer c:=λo a=>by
 simp only[codeOk,I!]at h;exact qH (h o a)
end
section
variable{P:Program}{G:Nat}{M:Mp}{h h':Hp}{w:World}{r:V}{keep:Nat->Bool}{N:Nat}{e:FuncId->Option Fun}
def auj{t:TypeId}{d:TypeDesc}(ht:P.underlying t=some d):(isAgg t).run P w=.ok (apQ d) w:=by
 simp only[isAgg,b!,run_underlying ht,e!];cases d<;>rfl
def aCq{t:TypeId}{v:V}{c:Value}(q:Rel G M h w)(p:Rp M v c)(e:Di P t v h=.ok r h'):
  h'=h/\∃d,(do loadVar t (<-asAddr c):Sem Value).run P w=.ok d w/\Rp M r d:=by
 unfold Di at e;split at e
 ·rename_i d hd;split at e
  ·rename_i a;split at e
   ·rename_i ti g;obtain⟨i,o,rfl,e⟩:=lQ e;obtain⟨wr,cs,hi,e⟩:=gG e;obtain⟨L,b,rfl⟩:=p.ptr;split at e
    ·rename_i l hl;cases e;obtain⟨xs,j,m,n,k⟩:=q.cells hi b hl;refine⟨rfl,.agg xs.toArray,?_,aey j n⟩;have:=run_loadCells_list (P:=P) w (L.at o) xs k
     rw[m]at this;simp only[asAddr,loadVar,b!,n!,e!,auj hd,a];simp[sizeOf,typeInfo,g,this]
    ·cases e
   ·cases e
  ·rename_i a;obtain⟨i,o,rfl,e⟩:=lQ e;obtain⟨wr,cs,hi,e⟩:=gG e;obtain⟨L,b,rfl⟩:=p.ptr;rw[oz]at e;split at e
   ·rename_i v s;cases e;obtain⟨x,j,f,_⟩:=q.cell hi b s;refine⟨rfl,x,?_,f⟩;simp only[asAddr,loadVar,b!,n!,e!,auj hd,a];simp[run_load,j]
   ·cases e
 ·cases e
def jU(keep:Nat->Bool):Nat->List V->F->F
 |_,[],fr=>fr
 |i,v::l,fr=>(match keep i with|true=>jU keep (i+1) l (fr.set (some v) (Pos.of i))|false=>jU keep (i+1) l fr)
def bT(P:Program):List ResultVar->F->Hp->(List V->R V)->R V
 | [],_,_,k=>k []
 | .tmp t::l,fr,h,k=>(match fr.get (Pos.of t) with|some v=>bT P l fr h λvs=>k (v::vs)|none=>.bad)
 | .cell a t::l,fr,h,k=>(match fr.get (Pos.of a) with
  |some p=>(match Di P t p h with| .ok v _=>bT P l fr h λvs=>k (v::vs)| .bad=>.bad)
  |none=>.bad)
def bW(vs:List V)(h:Hp):R V:=match vs with| [v]=>.ok v h|_=>.ok (.tuple (V.ofList vs)) h
def bU(P:Program)(a:List ResultVar):Out->R V
 | .nor fr h=>bT P a fr h λvs=>bW vs h
 | .ret fr h=>bT P a fr h λvs=>bW vs h
 |_=>.bad
def aY(P:Program)(keep:Nat->Bool)(N:Nat)(a:List ResultVar)(D:F->Hp->Out):Fun:=λargs h=>match k! args.length N with
 |true=>bU P a (D (jU keep 0 args .nil) h)
 |false=>.bad
def aar(keep:Nat->Bool)(a:Act):∀(vs:List V) (i:Nat) (fr:F),(∀j v,vs[j]?=some v->Rp M v (a.tmps.getD (i+j) undef))->NV keep M fr a->NV keep M (jU keep i vs fr) a
 | [],_,_,_,c=>c
 |v::vs,i,fr,f,c=>by
  have b:∀j u,vs[j]?=some u->Rp M u (a.tmps.getD (i+1+j) undef):=λj u hj=>by
   have:=f (j+1) u (by simpa using hj);rwa[show i+(j+1)=i+1+j by omega]at this
  unfold jU;split
  ·rename_i hk;refine aar keep a vs (i+1) _ b λt x d=>?_;by_cases ht:t=i
   ·subst ht;rw[T.oW]at d;cases d;exact⟨hk,f 0 v rfl⟩
   ·rw[T.tJ _ (λe=>ht (Pos.aeJ e))]at d;exact c t x d
  ·exact aar keep a vs (i+1) _ b c
def auw(tmps:Array Value):ResultVar->Sem Value
 | .tmp t=>pure (tmps.getD t undef)
 | .cell a t=>do loadVar t (<-asAddr (tmps.getD a undef))
def ZV(fn:Func)(tmps:Array Value):results fn tmps=(do
 let vs<-fn.results.mapM (auw tmps)
 pure (if h:vs.size=1 then vs[0] else .tuple vs)):=rfl
def aoY{fr:F}{a:Act}(g:Rel G M h w)(f:NV keep M fr a):∀(j:List ResultVar) (k:List V->R V),bT P j fr h k=.ok r h'->
  ∃vs cs,k vs=.ok r h'/\bY M vs cs/\(j.mapM (auw a.tmps)).run P w=.ok cs w
 | [],k,e=>⟨[],[],e,rfl,rfl⟩
 | .tmp t::l,k,e=>by
  unfold bT at e;split at e
  ·rename_i v n;obtain⟨vs,cs,e1,c,b⟩:=aoY g f l _ e;refine⟨v::vs,_::cs,e1,⟨_,_,(f t v n).2,c,rfl⟩,?_⟩;rw[K!];simp only[auw,b!,n!,e!,b]
  ·cases e
 | .cell x t::l,k,e=>by
  unfold bT at e;split at e
  ·rename_i p m;split at e
   ·rename_i v o hl;obtain⟨_,d,hd,i⟩:=aCq g (f x p m).2 hl;obtain⟨vs,cs,e1,c,b⟩:=aoY g f l _ e;refine⟨v::vs,d::cs,e1,⟨_,_,i,c,rfl⟩,?_⟩;rw[K!,b!];rw[show(auw a.tmps (.cell x t)).run P w=.ok d w from hd];simp only[b!,n!,e!,b]
   ·cases e
  ·cases e
def Sr{fn:Func}{fr:F}{a:Act}(m:Rel G M h w)(l:NV keep M fr a)(e:bT P fn.results.toList fr h (λvs=>bW vs h)=.ok r h'):
  h'=h/\∃c,(results fn a.tmps).run P w=.ok c w/\Rp M r c:=by
 obtain⟨vs,cs,e1,b,f⟩:=aoY m l _ _ e;have i:=b.length;have j:(fn.results.mapM (auw a.tmps)).run P w=.ok cs.toArray w:=by
  rw[Array.mapM_eq_mapM_toList];simp only[Sem.run_map,f];rfl
 unfold bW at e1;split at e1
 ·rename_i v;cases e1;obtain⟨x,xs,n,g,rfl⟩:=b;cases g;refine⟨rfl,x,?_,n⟩;rw[ZV,b!,j];simp
 ·rename_i hn;cases e1;refine⟨rfl,.tuple cs.toArray,?_,auv b⟩;rw[ZV,b!,j];have d:cs.toArray.size≠1:=by
   intro k;have:vs.length=1:=by simp at k;omega
   obtain⟨v,rfl⟩:=List.length_eq_one_iff.1 this;exact hn v rfl
  simp[d] at*;simp[d]
def apH{f:FuncId}{fn:Func}{c:Code}{D:F->Hp->Out}(C:P.funcs[f]?=some fn)(hn:(fn.name== "runtime.NumGoroutine")=false)(hb:fn.body=some c)(B:dS P keep G fn.ntmps c D):
  aH P G f (aY P keep fn.ntmps fn.results.toList D):=by
 intro args h r h' M w cargs e H b;have o:(callFunc f cargs.toArray).run P w=.ok (.enter f cargs.toArray) w:=by
  unfold callFunc;rw[b!,run_program];have u:¬fn.name= "runtime.NumGoroutine" :=by simpa using hn
  simp[C,u,hb]
 rw[o];simp only[Opq];unfold aY at e;split at e
 ·rename_i n;have n:=h! n;refine calls_of_wp C hb ?_;have E:=b.length
  have m:At keep G fn.ntmps [] M (jU keep 0 args .nil) h {tmps:=cargs.toArray++q! (fn.ntmps - cargs.toArray.size) undef,defers:= []} w:=by
   refine⟨H,aar keep _ args 0 _ (λj v hj=>?_) (λt v k=>by rw[T.get_nil]at k;cases k),by simp;omega,rfl⟩;obtain⟨x,g,y⟩:=b.get hj;have s:j<cargs.length:=by
    rcases Nat.lt_or_ge j cargs.length with p|p
    ·exact p
    ·rw[List.getElem?_eq_none p]at g;cases g
   have:(cargs.toArray++q! (fn.ntmps - cargs.toArray.size) undef).getD (0+j) undef=x:=by
    rw[c!,Array.getElem?_append_left (by simpa using s)];simp[g]
   simp only[this];exact y
  cases e1:D (jU keep 0 args .nil) h with
  |bad=>rw[e1]at e;cases e
  |ex i l z=>rw[e1]at e;cases e
  |nor l z=>
   rw[e1]at e;refine wp_mono (B.wp _ _ _ _ _ _ (by rw[e1];simp) m) ?_;intro x a' w' q;rw[e1]at q;cases x<;>simp only[iw]at q;obtain⟨M',a,g⟩:=q;obtain⟨rfl,v,k,d⟩:=Sr a.rel a.fr e;exact⟨a.plain,v,k,v,rfl,M',d,a.rel,g⟩
  |ret l z=>
   rw[e1]at e;refine wp_mono (B.wp _ _ _ _ _ _ (by rw[e1];simp) m) ?_;intro x a' w' q;rw[e1]at q;cases x<;>simp only[iw]at q;obtain⟨M',a,g⟩:=q;obtain⟨rfl,v,k,d⟩:=Sr a.rel a.fr e;exact⟨a.plain,v,k,v,rfl,M',d,a.rel,g⟩
 ·cases e
def ahn(G:Nat)(fn:Func):Bool:=(match fn.body with|some c=>codeOk G fn.ntmps c|none=>false)&&!(fn.name== "runtime.NumGoroutine")
end
section
variable{P:Program}{M:Mp}{h:Hp}{w:World}{r:V}
def Du(P:Program)(M:Mp)(w:World)(s:Sem Value)(o:Ob)(mk:Pos->V):Prop:=
 ∃c w' b n,s.run P w=.ok c w'/\w'.heap=w.heap.push b/\w'.os=w.os/\w'.tape=w.tape/\w'.output=w.output/\
  (∀N,M.le N->jV N ⟨w.heap.size,0,n⟩ w' o)/\∀(N:Mp) p,N p=some ⟨w.heap.size,0,n⟩->Rp N (mk p) c
def XU(vs:List V)(c:Array Value)(el:TypeId)(fr:Nat×Nat)(j:bY M vs (c.toList.take vs.length))(g:∀y∈c.toList,scalar y=true)
  (f:∀k,k<=c.size->¬(fr.1<=k/\k<fr.2)) (full:Bool) (b:full=true->c.size=vs.length) {w':World} (i:w'.heap=w.heap.push (.cells c el fr)):
  ∀N,M.le N->jV N ⟨w.heap.size,0,c.size⟩ w' (.cells (.rw el full) vs):=by
 intro N d;refine⟨c,el,fr,by rw[i];simp,rfl,λk v hk=>?_,rfl,λk _ hk=>f k hk,λh=>⟨rfl,b h⟩⟩;obtain⟨x,a,e⟩:=j.get hk;rw[List.getElem?_take]at a;split at a
 ·exact⟨x,by simpa using a,e.mono d,g x (z! a)⟩
 ·cases a
abbrev A:=Option (Ob×(Pos->V))
def afd(t:TypeId)(z:List V):A:=some (.cells (.rw t true) z,λp=>.ptr p 0)
def akX(t:TypeId)(x:V):A:=match iq x with|true=>some (.cells (.rw t true) x.cells,λp=>.ptr p 0)|false=>none
def eH(el:TypeId)(z:List V)(len:Nat)(qs:List (Nat×Nat×V)):A:=match Ir z qs with
 |some cs=>some (.cells (.rw el true) cs,λp=>.slice p 0 len (.kn len))
 |none=>none
def IE(el:TypeId)(bt:Nat)(z:List V)(l c:V):A:=match l,c with
 | .int _ (.ofNat l),.int _ (.ofNat c)=>(match k! l c,k! (Nat.mul c bt) 140737488355328 with
  |true,true=>some (.cells (.rw el true) (times c z),λp=>.slice p 0 l (.kn c))
  |_,_=>none)
 |_,_=>none
def OE(x:V):A:=match x with
 | .str s=>(match x! s.length 4611686018427387904 with|true=>some (.bytes (u8s s),λp=>.slice p 0 s.length (.un 1))|false=>none)
 |_=>none
variable{o:Ob}{mk:Pos->V}
def aJY{t:TypeId}{x:V}{c:Value}(b:Rp M x c)(e:akX t x=some (o,mk)):Du P M w (U! t c) o mk:=by
 unfold akX at e;split at e
 ·rename_i hn;cases e;have a:=b.cells;have hl:x.cells.length=c.cells.size:=by have:=a.length;simpa using this.symm
  refine⟨.pointer (some ⟨w.heap.size,0,none⟩),w.alloc (.cells c.cells t),_,_,?_,rfl,rfl,rfl,rfl,XU (w':=w.alloc (.cells c.cells t)) x.cells c.cells t (0,0) (by rw[hl,<-A!,i!];exact a) (BD b hn) (by simp) true (λ_=>hl.symm) rfl,λN p d=>yL d 0⟩;simp[U!,newVar,newRow]
 ·cases e
def aJW{t:TypeId}{it:TypeInfo}{z:Value}(hit:P.info? t=some it)(d:it.zero=some z){zs:List V}(a:bY M zs z.cells.toList)(b:∀y∈z.cells.toList,scalar y=true)
  (e:afd t zs=some (o,mk)):Du P M w (P! t true (.tuple #[])) o mk:=by
 cases e;have hl:=a.length;refine⟨.pointer (some ⟨w.heap.size,0,none⟩),w.alloc (.cells z.cells t),_,_,?_,rfl,rfl,rfl,rfl,XU (w':=w.alloc (.cells z.cells t)) zs z.cells t (0,0) (by rw[show zs.length=z.cells.toList.length from hl.symm,i!];exact a) b (by simp) true (λ_=>by rw[<-hl];simp) rfl,λN p c=>yL c 0⟩;simp[P!,zeroValue,typeInfo,hit,d,newVar,newRow]
def apS{t el:TypeId}{ti:TypeInfo}{z:Value}(hd:P.underlying t=some (.slice el))(E:ElemOk P el ti z){len:Nat}(b:0<len)(c:len*ti.size<=16777216)
  {zs:List V} (l:bY M zs ((y! (len*ti.size)).map (z.cells[· % z.cells.size]!)).toList) {ps:List (Nat×V)} {qs:List (Nat×Nat×V)} {ys:Array (Nat×Value)}
  (g:placed (λi=>some (i*ti.size,ti.size)) ps=some qs) (v:ps.map (·.1)=ys.toList.map (·.1)) (x:bY M (ps.map (·.2)) (ys.toList.map (·.2))) (e:eH el zs len qs=some (o,mk)):
  Du P M w (F! t len ys) o mk:=by
 unfold eH at e;split at e
 ·rename_i cs B;cases e;have j:∀y∈((y! (len*ti.size)).map (z.cells[· % z.cells.size]!)).toList,scalar y=true:=by
   intro y q;simp only[G!,N!]at q;obtain⟨i,_,rfl⟩:=q;have d:i % z.cells.size<z.cells.size:=Nat.mod_lt _ (by rw[E.cells];exact E.size);rw[getElem!_pos z.cells _ d];exact E.plain _ (by simp)
  obtain⟨a,s,n,u⟩:=apA g B l j v x;have hl:=n.length;have f:¬len*ti.size=0:=by have:=Nat.mul_pos b E.size;omega
  exact⟨_,w.alloc (.cells a el),_,_,run_buildSlice w t el len ys a ti z hd E.info E.zero (by omega) f s,rfl,rfl,rfl,rfl,
   XU (w':=w.alloc (.cells a el)) cs a el (0,0) (by rw[show cs.length=a.toList.length from hl.symm,i!];exact n) u (by simp) true (λ_=>by rw[<-hl];simp) rfl,
   λN p g=>iZ (o:=0) (k:=.kn len) (m:=len) g ⟨rfl,r! _⟩⟩
 ·cases e
def asR{t el:TypeId}{ti:TypeInfo}{z:Value}(hd:P.underlying t=some (.slice el))(E:ElemOk P el ti z){zs:List V}(v:bY M zs z.cells.toList)
  {l c:V} {a b:Value} (hl:Rp M l a) (G:Rp M c b) (e:IE el ti.bytes zs l c=some (o,mk)):Du P M w (Instr.makeSlice t a b) o mk:=by
 unfold IE at e;split at e
 ·rename_i J n1 K d;cases hl.int;cases G.int;split at e
  ·rename_i B C;cases e;have u:n1<=d:=h! B;have D:d*ti.bytes<=140737488355328:=h! C;have H:d<=d*ti.bytes:=Nat.le_mul_of_pos_right _ E.bytes;have j:(ti.bytes:Int)*(d:Int)<=281474976710656:=by
    have:((ti.bytes*d:Nat):Int)<=281474976710656:=by rw[Nat.mul_comm];omega
    rwa[Int.natCast_mul]at this
   have i:=run_make (P:=P) w t el ti z hd E.info E.zero J K (n1:Int) (d:Int) (by omega) (by omega) j (by omega);simp only[Int.toNat_natCast]at i;have q:(madeCells z.cells (d*ti.size)).toList=(J! d z.cells.toList).flatten:=by
    unfold madeCells;rw[<-E.cells];exact EW z.cells d (by rw[E.cells];exact E.size)
   have g:=FQ v d;have f:=g.length;exact⟨_,w.alloc (.cells (madeCells z.cells (d*ti.size)) el),_,_,i,rfl,rfl,rfl,rfl,
    XU (w':=w.alloc (.cells (madeCells z.cells (d*ti.size)) el)) (times d zs) (madeCells z.cells (d*ti.size)) el (0,0) (by rw[q,<-f,i!];exact g)
     (by
      intro y x;rw[q]at x;obtain⟨l,hl,s⟩:=List.mem_flatten.1 x;rw[(List.mem_replicate.1 hl).2]at s;exact E.plain y s) (by simp) true (λ_=>by rw[<-f,<-q];simp) rfl,
    λN p I=>iZ (o:=0) (n:=n1) (k:=.kn d) (m:=d) I ⟨rfl,u⟩⟩
  ·cases e
 ·cases e
def av3{s d el:TypeId}(J:P.underlying s=some .string)(hd:P.underlying d=some (.slice el))(H:P.underlying el=some (.int .u8)){x:V}{a:Value}(K:Rp M x a)(e:OE x=some (o,mk)):
  Du P M w (convert s d a) o mk:=by
 unfold OE at e;split at e
 ·rename_i l;obtain⟨hl,rfl⟩:=K.str;split at e
  ·rename_i y;have G:l.length<4611686018427387904:=by simpa[u!]using y
   cases e;have c:=run_bytes_of_string (P:=P) w s d el (bts l) J hd H;have f:=grownCap_ge w (bts l).size 0 el;have q:grownCap w (bts l).size 0 el<=9223372036854775807:=grownCap_le_maxLen _ _ _ _ (by rw[lM];show _<=9223372036854775807;omega);generalize O:grownCap w (bts l).size 0 el=C at c f q;have j:(bytesRow (bts l) C).toList=(l.map λb=>Value.int .u8 (.ofNat b))++J! (C - l.length) (.int .u8 0):=by
    simp only[bytesRow,Array.toList_append,G!,lM,Array.toList_replicate];congr 1;simp only[bts,O!];apply List.map_congr_left;intro b hb;simp[TT (hl b hb)]
   have E:(bytesRow (bts l) C).size=C:=by
    rw[<-A!,j];rw[lM]at f;simp;omega
   have t:bY M (u8s l) (l.map λb=>Value.int .u8 (.ofNat b)):=by
    refine bY.mk (by simp[u8s]) (λi v hi=>?_);simp only[u8s,List.getElem?_map]at hi⊢;cases u:l[i]? with
    |none=>rw[u]at hi;cases hi
    |some b=>rw[u]at hi;cases hi;exact⟨_,rfl,gU M _ _⟩
   rw[lM]at c f;exact⟨_,w.drew.alloc (.cells (bytesRow (bts l) C) el ((bytesRow (bts l) C).size,(bytesRow (bts l) C).size+1)),_,_,c,rfl,rfl,rfl,rfl,
    (λN B=>⟨_,_,_,by simp only[World.alloc];exact Array.getElem?_push_size,rfl,λk v hk=>by
     obtain⟨x,g,D⟩:=t.get hk;have z:(bytesRow (bts l) C)[0+k]?=some x:=by
      rw[Nat.zero_add,<-Array.getElem?_toList,j,List.getElem?_append_left (by rw[List.getElem?_eq_some_iff]at g;exact g.1)];exact g
     refine⟨x,z,D.mono B,?_⟩;obtain⟨b,_,rfl⟩:=N!.1 (z! g);rfl,λk _ hk h=>by
      have L:(bytesRow (bts l) C).size<=k:=h.1;exact absurd hk (by show ¬k<(bytesRow (bts l) C).size;omega)⟩),
    λN p I=>iZ (o:=0) (n:=l.length) (k:=.un 1) (m:=C) I ⟨⟨f,q⟩,by show 0+0+C*1=(bytesRow (bts l) C).size;rw[E];omega⟩⟩
  ·cases e
 ·cases e
def atE(P:Program)(t:TypeId)(vs:List V):A:=match vs with
 | []=>(match P.underlying t with
  |some (.slice el)=>(match P.info? el with|some _=>some (.cells (.rw el true) [],λp=>.slice p 0 0 (.kn 0))|none=>none)
  |_=>none)
 |_=>none
def Iw(P:Program)(t:TypeId)(len:Nat)(is:List Nat)(vs:List V):A:=match P.underlying t with
 |some (.slice el)=>(match N8 P el with
  |some ti=>(match ti.zero with
   |some z=>(match Iy ((y! (len*ti.size)).map (z.cells[· % z.cells.size]!)).toList,placed (λi=>some (i*ti.size,ti.size)) (is.zip vs),x! 0 len,k! (len*ti.size) 16777216 with
    |some zs,some qs,true,true=>eH el zs len qs
    |_,_,_,_=>none)
   |none=>none)
  |none=>none)
 |_=>none
def BF(P:Program)(op:Op)(vs:List V):A:=
 match op with
 | .alloc t=>(match vs with| []=>(match ZI P t with|some z=>afd t z|none=>none)|_=>none)
 | .box t _=>(match vs with| [x]=>akX t x|_=>none)
 | .buildSlice t len ps=>(match d! len 0 with|true=>atE P t vs|false=>Iw P t len (ps.toList.map (·.1)) vs)
 | .makeSlice t _ _=>(match vs with
  | [l,c]=>(match P.underlying t with
   |some (.slice el)=>(match N8 P el,ZI P el with|some ti,some z=>IE el ti.bytes z l c|_,_=>none)
   |_=>none)
  |_=>none)
 | .makeMap _ r=>(match r,vs with
  |none,[]=>some (.map [],λp=>.map p)
  |_,_=>none)
 | .convert s d _=>(match vs with
  | [x]=>(match P.underlying s,P.underlying d with
   |some .string,some (.slice el)=>(match P.underlying el with|some (.int .u8)=>OE x|_=>none)
   |_,_=>none)
  |_=>none)
 |_=>none
def axQ(P:Program)(M:Mp)(w:World)(s:Sem Next)(o:Ob)(mk:Pos->V):Prop:=
 ∃c w' b n,s.run P w=.ok (.value c) w'/\w'.heap=w.heap.push b/\w'.os=w.os/\w'.tape=w.tape/\w'.output=w.output/\
  (∀N,M.le N->jV N ⟨w.heap.size,0,n⟩ w' o)/\∀(N:Mp) p,N p=some ⟨w.heap.size,0,n⟩->Rp N (mk p) c
def Du.opq{s:Sem Value}(g:Du P M w s o mk):axQ P M w (do pure (.value (<-s))) o mk:=by
 obtain⟨c,w',b,n,a,d⟩:=g;exact⟨c,w',b,n,by simp[a],d⟩
def ayj{op:Oper}{a:Act}{vs:List V}(f:bY M vs (op.op.operands.toList.map a.eval))(e0:BF P op.op vs=some (o,mk)):
  axQ P M w (execOp a.eval op) o mk:=by
 obtain⟨dst,op,type,pos,after,guard⟩:=op;simp only at f e0;cases op<;>simp only[BF]at e0<;>try (cases e0;done)
 case alloc t=>
  split at e0
  ·split at e0
   ·rename_i z e;obtain⟨it,O,g,j,J⟩:=LC e;exact(aJW g j (J M).1 (J M).2 e0).opq
   ·cases e0
  ·cases e0
 case box t x=>
  split at e0
  ·exact(aJY (vz rfl f) e0).opq
  ·cases e0
 case makeMap t Z=>
  split at e0
  ·cases e0;have v:Du P M w (L! t none) (.map []) (λp=>.map p):=⟨.map (some w.heap.size),w.alloc (.map #[] 0),_,0,by simp[L!],rfl,rfl,rfl,rfl,
    λN _=>⟨#[],0,(by show(w.heap.push _)[w.heap.size]?=_;simp),wG.nil N⟩,λN p B=>⟨rfl,_,B,rfl⟩⟩
   exact v.opq
  ·cases e0
 case convert s d x=>
  split at e0
  ·split at e0
   ·rename_i el S hd;split at e0
    ·rename_i y;exact(av3 S hd y (vz rfl f) e0).opq
    ·cases e0
   ·cases e0
  ·cases e0
 case makeSlice t l c=>
  split at e0
  ·obtain⟨g,j⟩:=ops2 rfl f;split at e0
   ·rename_i el hd;split at e0
    ·rename_i ti z b e;obtain⟨O,E⟩:=Bz b;obtain⟨it,Y,K,L,U⟩:=LC e;rw[E.info]at K;cases K;rw[E.zero]at L;cases L;exact(asR hd E (U M).1 g j e0).opq
    ·cases e0
   ·cases e0
  ·cases e0
 case buildSlice t len ps=>
  have q:=f.length;have e1:(Op.buildSlice t len ps).operands.toList.map a.eval=ps.toList.map λp=>a.eval p.2:=by simp[Op.operands]
  rw[e1]at f q;have hl:vs.length=ps.toList.length:=by simpa using q.symm
  obtain⟨W,X⟩:=zip_fst (ρ:=a.eval) ps.toList hl;have u:(ps.map λ(i,x)=>(i,a.eval x)).toList=ps.toList.map λp=>(p.1,a.eval p.2):=by simp
  have g:((ps.toList.map (·.1)).zip vs).map (·.1)=(ps.map λ(i,x)=>(i,a.eval x)).toList.map (·.1):=by rw[u];exact W
  have j:bY M (((ps.toList.map (·.1)).zip vs).map (·.2)) ((ps.map λ(i,x)=>(i,a.eval x)).toList.map (·.2)):=by
   rw[u,X,O!];exact f
  split at e0
  ·rename_i e;have e:=a! e;subst e;unfold atE at e0;split at e0
   ·have G:ps= #[]:=by
     cases ps with
     |mk l=>cases l with
      |nil=>rfl
      |cons x l=>simp at hl
    subst G;split at e0
    ·rename_i el hd;split at e0
     ·rename_i ti b;cases e0;have v:Du P M w (F! t 0 #[]) (.cells (.rw el true) []) (λp=>.slice p 0 0 (.kn 0)):=⟨.slice (some ⟨w.heap.size,0,none⟩) 0 0,w.alloc (.cells #[] el),_,_,azk w t el ti hd b,rfl,rfl,rfl,rfl,
       XU (M:=M) (w':=w.alloc (.cells #[] el)) [] #[] el (0,0) rfl (by simp) (by simp) true (λ_=>rfl) rfl,λN p B=>iZ (o:=0) (n:=0) (k:=.kn 0) (m:=0) B ⟨rfl,r! 0⟩⟩
      have I:=v.opq;rw[show(#[]:Array (Nat×Value))=(#[]:Array (Nat×Operand)).map (λx=>(x.1,a.eval x.2)) from by simp]at I;exact I
     ·cases e0
    ·cases e0
   ·cases e0
  unfold Iw at e0;split at e0
  ·rename_i el hd;split at e0
   ·rename_i ti b;obtain⟨O,E⟩:=Bz b;split at e0
    ·rename_i z e;rw[E.zero]at e;cases e;split at e0
     ·rename_i zs qs H Q C D;exact(apS hd E (by simpa[u!]using C) (h! D) (BA H M).1 Q g j e0).opq
     ·cases e0
    ·cases e0
   ·cases e0
  ·cases e0
end
section
variable{P:Program}
def setH(h:Hp):R V->R V
 | .ok v _=>.ok v h
 | .bad=>.bad
def azf(h h':Hp)(v:V):setH h (.ok v h')=.ok v h:=rfl
def Pu(m:Hp->R V):Prop:=∀h g,m g=setH g (m h)
def Pu.ok(v:V):Pu λh=>.ok v h:=λ_ _=>rfl
def Pu.asInt{v:V}{k:IntKind->Int->Hp->R V}(hk:∀a n,Pu (k a n)):Pu λh=>asInt v λa n=>k a n h:=by
 intro h g;unfold Vm.asInt;cases v<;>first|exact hk _ _ h g|rfl
def Pu.tY{v:V}{k:Pos->Nat->Hp->R V}(hk:∀a n,Pu (k a n)):Pu λh=>tY v λa n=>k a n h:=by
 intro h g;unfold Vm.tY;cases v<;>first|exact hk _ _ h g|rfl
def Pu.lS{v:V}{k:Nat->Hp->R V}(hk:∀n,Pu (k n)):Pu λh=>lS v λn=>k n h:=by
 intro h g;unfold Vm.lS;cases v<;>first|rfl|(rename_i a n;cases n<;>first|exact hk _ h g|rfl)
def Pu.asBool{v:V}{k:Bool->Hp->R V}(hk:∀n,Pu (k n)):Pu λh=>asBool v λn=>k n h:=by
 intro h g;unfold Vm.asBool;cases v<;>first|exact hk _ h g|rfl
def Pu.iM{v:Option V}{d:Nat}{k:Nat->Hp->R V}(hk:∀n,Pu (k n)):Pu λh=>iM v d λn=>k n h:=by
 intro h g;unfold Vm.iM;cases v<;>first|exact hk _ h g|exact Pu.lS hk h g
def auE(k:IntKind)(n:Int):Pu (iH k n):=by intro h g;rw[gK,gK,azf]
def aeE(b:Bool):Pu (fH b):=by intro h g;rw[fU,fU,azf]
def aIU(c a b:V):Pu (atz c a b):=Pu.asBool λn=>by cases n<;>exact Pu.ok _
def ax1(x:V):Pu (aS x):=by
 intro h g;unfold aS;cases x<;>first|rfl|(rename_i fn _ _;cases fn<;>rfl)
def aB4(n:Nat)(x:V):Pu (bJ n x):=by
 intro h g;unfold bJ;cases x<;>first|rfl|(simp only[];generalize aCk n _=q;cases q<;>rfl)
def aPN(op:UnOp)(x:V):Pu (oUn op x):=by
 intro h g;unfold oUn;cases op<;>first|exact Pu.asInt (λ_ _=>auE _ _) h g|exact Pu.asBool (λ_=>aeE _) h g|rfl
def aGj(op:BinOp)(k:IntKind)(a b:Int):Pu (XR op k a b):=by
 intro h g;simp only[XR,gK,dF];(repeat' split)<;>first|rfl|simp_all[setH]
def aNJ(op:BinOp)(k:IntKind)(a b:Int):Pu (ams op k a b):=by
 intro h g;simp only[ams,gK,fU,dF];(repeat' split)<;>first|rfl|simp_all[setH]
def aNF(op:BinOp)(a b:List Nat):Pu (alX op a b):=by
 intro h g;simp only[alX,gK,fU,dF];(repeat' split)<;>first|rfl|simp_all[setH]
def aIT(c:EqC)(x y:V){k:Bool->Hp->R V}(hk:∀b,Pu (k b)):Pu λh=>ag6 c x y λb=>k b h:=by
 intro h g;simp only[ag6];(repeat' split)<;>first|rfl|exact hk _ h g|(simp_all[setH];done)
def aNK(op:BinOp)(c:EqC)(x y:V):Pu (aJ op c x y):=by
 intro h g;unfold aJ;cases x<;>(try cases y)<;>simp only[]<;>first
  |rfl
  |exact aNF _ _ _ h g
  |(cases TA op<;>simp only[]<;>first
    |exact aGj _ _ _ _ h g
    |(split<;>first|exact aNJ _ _ _ _ h g|rfl))
  |(cases op<;>first|rfl|exact aIT _ _ _ (λ_=>aeE _) h g)
def aNL(op:BinOp)(t:TypeId)(a:Array Field)(x y:V):Pu (Yx P op t a x y):=by
 intro h g;unfold Yx;cases x<;>try rfl
 cases y<;>try rfl
 simp only[];split
 ·split
  ·cases op<;>first|exact aeE _ h g|rfl
  ·rfl
 ·rfl
def Wj{vs:List V}{k:V->Hp->R V}(hk:∀x,Pu (k x)):Pu λh=>v1 vs λx=>k x h:=by
 intro h g;unfold v1;rcases vs with _|⟨x,_|⟨y,l⟩⟩<;>first|rfl|exact hk _ h g
def aB2{vs:List V}{k:V->V->Hp->R V}(hk:∀x y,Pu (k x y)):Pu λh=>v2 vs λx y=>k x y h:=by
 intro h g;unfold v2;rcases vs with _|⟨x,_|⟨y,_|⟨z,l⟩⟩⟩<;>first|rfl|exact hk _ _ h g
def aPM{vs:List V}{k:V->V->V->Hp->R V}(hk:∀x y z,Pu (k x y z)):Pu λh=>v3 vs λx y z=>k x y z h:=by
 intro h g;unfold v3;rcases vs with _|⟨x,_|⟨y,_|⟨z,_|⟨u,l⟩⟩⟩⟩<;>first|rfl|exact hk _ _ _ h g
def aB6(k:IntKind)(x:V):Pu (jk k x):=Pu.asInt λ_ _=>auE _ _
def aB5(x:V):Pu (Ul x):=by intro h g;unfold Ul;cases x<;>rfl
def auF(o:Nat)(x:V):Pu (aF o x):=by
 refine Pu.tY λi n h g=>?_;simp only[dF,setH]
def aIV(sz:Nat)(x i:V):Pu (bD sz x i):=by
 refine Pu.lS λk h g=>?_;simp only[dF];cases x<;>first|rfl|(simp only[];split<;>rfl)
def aIW(l sz:Nat)(x i:V):Pu (aCg l sz x i):=by
 refine Pu.lS λk=>Pu.tY λi o h g=>?_;simp only[dF];split<;>rfl
def aDW(x i:V):Pu (mF x i):=by
 refine Pu.lS λk h g=>?_;cases x<;>first|rfl|(simp only[];split<;>rfl)
def ah9(x:V)(lo hi:Option V):Pu (Bj x lo hi):=by
 intro h g;unfold Bj;cases x<;>try rfl
 rename_i s;exact Pu.iM (k:=λhh h=>iM lo 0 λl=>match k! hh s.length,k! l hh with|true,true=>.ok (.str (takeN (hh - l) (atC l s))) h|_,_=>.bad)
  (λhh=>Pu.iM (k:=λl h=>match k! hh s.length,k! l hh with|true,true=>.ok (.str (takeN (hh - l) (atC l s))) h|_,_=>.bad) λl=>by intro h g;simp only[];split<;>rfl) h g
def aeD(sz:Nat)(i:Pos)(o len top:Nat)(lo hi:Option V)(m:Nat):Pu λh=>XQ sz i o len top lo hi h m:=by
 unfold XQ;refine Pu.iM λhh=>Pu.iM λl=>?_;intro h g;simp only[dF];split<;>rfl
def aB3(sz:Nat)(i:Pos)(o len u:Nat)(lo hi:Option V):Pu λh=>ag4 sz i o len u lo hi h:=by
 unfold ag4;refine Pu.iM λhh=>Pu.iM λl=>?_;intro h g;simp only[dF];split
 ·cases l
  ·rfl
  ·simp only[];split<;>rfl
 ·rfl
def aeC(v:V)(lo hi:Option V)(m:Nat):Pu λh=>Oz v lo hi h m:=by
 unfold Oz;refine Pu.iM λhh=>Pu.iM λl=>?_;intro h g;split<;>rfl
def xM(sz:Nat)(x:V)(lo hi mx:Option V):Pu (eP sz x lo hi mx):=by
 intro h g;unfold eP;split
 ·unfold al4;cases x<;>try rfl
  ·rename_i i o len cap;cases cap with
   |kn c=>exact Pu.iM (λm=>aeD sz i o len c lo hi m) h g
   |un u=>cases mx with
    |none=>exact aB3 sz i o len u lo hi h g
    |some a=>exact Pu.lS (λm=>aeD sz i o len len lo hi m) h g
  ·exact Pu.iM (λm=>aeC _ lo hi m) h g
  ·cases mx with
   |none=>exact aeC _ lo hi 0 h g
   |some a=>rfl
 ·rfl
def aia(sz len:Nat)(x:V)(lo hi mx:Option V):Pu (OC sz len x lo hi mx):=by
 intro h g;unfold OC;split
 ·exact Pu.tY (λi o=>Pu.iM λm=>aeD sz i o len len lo hi m) h g
 ·rfl
def aGk(z:List V)(qs:List (Nat×Nat×V)):Pu (bK z qs):=by intro h g;unfold bK;split<;>rfl
def aNI(k:Nat)(x:V)(hk:d! k 3=false):Pu (aZ k x):=by
 intro h g;unfold aZ;split
 ·rename_i a;unfold aCf;cases x<;>try rfl
  simp only[F6]at a;rw[a]at hk;cases hk
 ·rfl
def aNG(x y:V):Pu (aCd x y):=Pu.asInt λ_ _=>Pu.asInt λ_ _=>by intro h g;split<;>rfl
def aNH(x y:V):Pu (akv x y):=Pu.asInt λ_ _=>Pu.asInt λ_ _=>by intro h g;split<;>rfl
def aGU(lo hi mx:Option Operand):Bool:=match lo,hi,mx with
 |some _,some _,none=>true
 |_,_,_=>false
def Ui(P:Program)(op:Op):Bool:=match op with
 | .move _| .assign _| .pick .. | .build .. | .nilCheck _| .binOp .. | .unOp .. | .makeInterface .. | .makeFunc .. | .fieldAddr .. | .indexAddr .. | .index .. | .extract .. =>true
 | .slice t _ lo hi mx=>(match P.underlying t with
  |some (.slice _)=>not (aGU lo hi mx)
  |_=>true)
 | .convert s d _=>(match P.underlying s,P.underlying d with
  |some _,some (.int _)=>true
  |some .string,some .string=>true
  |_,_=>false)
 | .call c=>(match c.callee with
  | .builtin b=>(match b with
   | .min| .max=>true
   | .len=>(match c.argTypes.toList with
    | [t]=>(match P.underlying t with|some d=>not (d! (zq d) 3)|none=>false)
    |_=>false)
   |_=>false)
  |_=>false)
 |_=>false
def pure_ok{e:FuncId->Option Fun}{op:Op}(vs:List V)(p:Ui P op=true):Pu (iK P e op vs):=by
 cases op<;>simp only[Ui]at p<;>try (cases p;done)
 case move x=>exact Wj λx=>Pu.ok x
 case assign x=>exact Wj λx=>Pu.ok x
 case pick c a b=>exact aPM λc a b=>aIU c a b
 case build t ps=>
  intro h g;simp only[iK,avO]
  (repeat' split)<;>first|rfl|exact aGk _ _ h g|simp_all[setH]
 case nilCheck x=>exact Wj λx=>ax1 x
 case binOp op t E G l=>
  refine aB2 λx y h g=>?_;simp only[aCQ]
  (repeat' split)<;>first|rfl|exact aNL _ _ _ _ _ h g|exact aNK _ _ _ _ h g|simp_all[setH]
 case unOp op t x=>exact Wj λx=>aPN op x
 case convert s d x=>
  refine Wj λx h g=>?_;simp only[x9];split at p
  ·rename_i v w;simp only[v,w];exact aB6 _ _ h g
  ·rename_i v w;simp only[v,w];exact aB5 _ h g
  ·cases p
 case makeInterface t x=>
  refine Wj λx h g=>?_;simp only[avM]
  (repeat' split)<;>first|rfl|simp_all[setH,auW]
 case makeFunc fn f c=>
  intro h g;simp only[iK,aCP];split<;>first|rfl|(unfold dZ;cases ao6 fn<;>rfl)
 case slice t x lo hi mx=>
  intro h g;simp only[iK];cases vs with
  |nil=>rfl
  |cons x vs=>
   have fin:∀(o k j:Option V),(P.underlying t=none\/∀el,P.underlying t≠some (.slice el)\/(j≠none\/o=none\/k=none))->Pu (UA P t x o k j):=by
    intro o k j B h g;simp only[UA];split
    ·cases j with
     |none=>exact ah9 _ _ _ h g
     |some _=>rfl
    ·rename_i el hd;split
     ·have D:j≠none\/o=none\/k=none:=by
       rcases B with q|q
       ·rw[hd]at q;cases q
       ·rcases q el with q|q
        ·exact absurd hd q
        ·exact q
      unfold ahh;cases j with
      |some m=>exact xM _ _ _ _ _ h g
      |none=>
       cases o with
       |none=>exact xM _ _ _ _ _ h g
       |some l=>
        cases k with
        |none=>exact xM _ _ _ _ _ h g
        |some hh=>rcases D with q|q|q<;>first|exact absurd rfl q|cases q
     ·rfl
    ·split
     ·exact aia _ _ _ _ _ _ h g
     ·rfl
    ·rfl
   have C:P.underlying t=none\/∀el,P.underlying t≠some (.slice el)\/aGU lo hi mx=false:=by
    refine .inr λel=>?_;by_cases hd:P.underlying t=some (.slice el)
    ·rw[hd]at p;exact .inr (by simpa using p)
    ·exact .inl hd
   have go:∀(o k j:Option V),(o.isSome=lo.isSome)->(k.isSome=hi.isSome)->(j.isSome=mx.isSome)->Pu (UA P t x o k j):=by
    intro o k j a b c;refine fin o k j (C.imp id λq el=>(q el).imp id λq=>?_);cases o<;>cases k<;>cases j<;>cases lo<;>cases hi<;>cases mx<;>simp_all[aGU]
   show akr lo vs _=_;cases lo with
   |none=>
    cases hi with
    |none=>
     cases mx with
     |none=>exact go none none none rfl rfl rfl h g
     |some m=>cases vs with
      |nil=>rfl
      |cons a vs=>exact go none none (some a) rfl rfl rfl h g
    |some i=>cases vs with
     |nil=>rfl
     |cons a vs=>cases mx with
      |none=>exact go none (some a) none rfl rfl rfl h g
      |some m=>cases vs with
       |nil=>rfl
       |cons b vs=>exact go none (some a) (some b) rfl rfl rfl h g
   |some l=>cases vs with
    |nil=>rfl
    |cons a vs=>cases hi with
     |none=>cases mx with
      |none=>exact go (some a) none none rfl rfl rfl h g
      |some m=>cases vs with
       |nil=>rfl
       |cons b vs=>exact go (some a) none (some b) rfl rfl rfl h g
     |some i=>cases vs with
      |nil=>rfl
      |cons b vs=>cases mx with
       |none=>exact go (some a) (some b) none rfl rfl rfl h g
       |some m=>cases vs with
        |nil=>rfl
        |cons c vs=>exact go (some a) (some b) (some c) rfl rfl rfl h g
 case fieldAddr t x n=>
  refine Wj λx h g=>?_;simp only[avN]
  (repeat' split)<;>first|rfl|exact auF _ _ h g
 case indexAddr t x i=>
  refine aB2 λx y h g=>?_;simp only[aaz]
  (repeat' split)<;>first|rfl|exact aIV _ _ _ h g|exact aIW _ _ _ _ h g
 case index t x i=>
  refine aB2 λx y h g=>?_;simp only[avL]
  (repeat' split)<;>first|rfl|exact aDW _ _ h g
 case extract x n=>exact Wj λx=>aB4 n x
 case call c=>
  obtain⟨r,args,u⟩:=c;cases r with
  |invoke rc m=>cases p
  |value f=>cases p
  |builtin b=>
   intro h g;simp only[iK,atF,aad];cases b<;>simp only[]at p⊢<;>try (cases p;done)
   case len=>
    split at p
    ·rename_i t ht;split at p
     ·rename_i d hd;rw[ht];rcases vs with _|⟨x,_|⟨y,l⟩⟩<;>try rfl
      simp only[hd];have hk:d! (zq d) 3=false:=by simpa using p
      cases d<;>first|exact aNI _ _ hk h g|rfl
     ·cases p
    ·cases p
   all_goals (rcases vs with _|⟨x,_|⟨y,_|⟨z,l⟩⟩⟩<;>first|rfl|exact aNG _ _ h g|exact aNH _ _ h g)
def amb(P:Program)(op:Op):Bool:=match op with
 | .slice .. =>true
 | .load .. =>true
 | .lookup .. =>true
 | .convert s d _=>(match P.underlying s,P.underlying d with
  |some (.slice _),some .string=>true
  |_,_=>false)
 | .call c=>(match c.callee with
  | .builtin b=>(match b with
   | .len=>true
   |_=>false)
  |_=>false)
 |_=>Ui P op
def Pu.same{m:Hp->R V}(a:Pu m){h h':Hp}{v:V}(e:m h=.ok v h'):h'=h:=by
 have:=a h h;rw[e]at this;cases this;rfl
def aCs{a:V}{h h':Hp}{v:V}(e:aG a h=.ok v h'):h'=h:=by
 obtain⟨i,o,rfl,e⟩:=lQ e;obtain⟨w,cs,_,e⟩:=gG e;split at e<;>cases e;rfl
def aCr{n:Nat}{a:V}{h h':Hp}{v:V}(e:cO n a h=.ok v h'):h'=h:=by
 obtain⟨i,o,rfl,e⟩:=lQ e;obtain⟨w,cs,_,e⟩:=gG e;split at e<;>cases e;rfl
def asP{a:V}{h h':Hp}{v:V}(e:Bl a h=.ok v h'):h'=h:=by
 unfold Bl at e;split at e
 ·cases e;rfl
 ·cases e;rfl
 ·obtain⟨w,cs,_,e⟩:=gG e;split at e
  ·split at e<;>cases e;rfl
  ·cases e
 ·cases e
def aD8{k:Nat}{a:V}{h h':Hp}{v:V}(e:aZ k a h=.ok v h'):h'=h:=by
 unfold aZ at e;split at e
 ·unfold aCf at e;split at e<;>first|(cases e;rfl)|cases e|skip
  split at e<;>first|(cases e;rfl)|cases e
 ·cases e
def aak{ok b:Bool}{v r:V}{h h':Hp}(e:ahl ok v b h=.ok r h'):h'=h:=by
 unfold ahl at e;cases ok<;>cases e<;>rfl
def ax5{ok:Bool}{z m x r:V}{h h':Hp}(e:LH ok z m x h=.ok r h'):h'=h:=by
 unfold LH at e;split at e
 ·exact aak e
 ·split at e
  ·unfold ahm at e;split at e
   ·split at e
    ·exact aak e
    ·exact aak e
   ·cases e
  ·cases e
 ·cases e
def avJ{t:TypeId}{ok:Bool}{m x r:V}{h h':Hp}(e:Yv P t ok m x h=.ok r h'):h'=h:=by
 unfold Yv at e;split at e
 ·split at e
  ·split at e
   ·split at e
    ·unfold Uk at e;split at e
     ·exact ax5 e
     ·cases e
    ·cases e
   ·cases e
  ·cases e
 ·cases e
def aeH{x:Option Operand}{vs:List V}{k:Option V->List V->R V}{h':Hp}{v:V}(e:akr x vs k=.ok v h'):∃u us,k u us=.ok v h':=by
 unfold akr at e;cases x with
 |none=>exact⟨_,_,e⟩
 |some o=>cases vs with
  |nil=>cases e
  |cons a vs=>exact⟨_,_,e⟩
def amO{x:V}{k:Nat->R V}{h':Hp}{v:V}(e:lS x k=.ok v h'):∃n,k n=.ok v h':=by
 obtain⟨_,n,_,e1⟩:=pR e;exact⟨n,e1⟩
def aGT{sz:Nat}{i:Pos}{o u l hh:Nat}{h h':Hp}{v:V}(e:ZT sz i o u l hh h=.ok v h'):h'=h:=by
 obtain⟨w,cs,_,e⟩:=gG e;split at e
 ·rw[dF,dF]at e;cases e;rfl
 ·cases e
def axY{sz:Nat}{x lo hi:V}{h h':Hp}{v:V}(e:FY sz x lo hi h=.ok v h'):h'=h:=by
 unfold FY at e;split at e
 ·split at e
  ·exact(xM _ _ _ _ _).same e
  ·obtain⟨hh,e⟩:=amO e;obtain⟨l,e⟩:=amO e;split at e
   ·exact(xM _ _ _ _ _).same e
   ·exact aGT e
 ·exact(xM _ _ _ _ _).same e
def aya{t:TypeId}{x:V}{lo hi mx:Option V}{h h':Hp}{v:V}(e:UA P t x lo hi mx h=.ok v h'):h'=h:=by
 unfold UA at e;split at e
 ·split at e
  ·exact(ah9 _ _ _).same e
  ·cases e
 ·split at e
  ·unfold ahh at e;split at e
   ·exact(xM _ _ _ _ _).same e
   ·split at e
    ·split at e
     ·exact axY e
     ·exact(xM _ _ _ _ _).same e
    ·exact(xM _ _ _ _ _).same e
  ·cases e
 ·split at e
  ·exact(aia _ _ _ _ _ _).same e
  ·cases e
 ·cases e
def aDV{e:FuncId->Option Fun}{op:Op}{vs:List V}{h h':Hp}{v:V}(i:amb P op=true)(e0:iK P e op vs h=.ok v h'):h'=h:=by
 by_cases j:Ui P op=true
 ·exact(pure_ok vs j).same e0
 ·cases op<;>simp only[amb,Ui]at i j<;>try (first|(cases i;done)|exact absurd rfl j|exact absurd i j)
  case slice t x lo hi mx=>
   simp only[iK]at e0;split at e0
   ·obtain⟨u,us,e1⟩:=aeH e0;obtain⟨r,z,e2⟩:=aeH e1;obtain⟨w,k,n⟩:=aeH e2;exact aya n
   ·cases e0
  case load t x=>
   simp only[iK]at e0;obtain⟨x,rfl,e0⟩:=CQ e0;unfold Di at e0;split at e0
   ·split at e0
    ·split at e0
     ·exact aCr e0
     ·cases e0
    ·exact aCs e0
   ·cases e0
  case lookup t m x ok=>
   simp only[iK]at e0;obtain⟨m,x,rfl,e0⟩:=V7 e0;exact avJ e0
  case convert s d x=>
   simp only[iK]at e0;obtain⟨x,rfl,e0⟩:=CQ e0;unfold x9 at e0;split at i
   ·rename_i o p;simp only[o,p]at e0;split at e0
    ·exact asP e0
    ·cases e0
   ·cases i
  case call c=>
   obtain⟨g,args,a⟩:=c;cases g with
   |invoke rc m=>cases i
   |value f=>cases i
   |builtin b=>
    cases b<;>simp only[]at i<;>try (cases i;done)
    simp only[iK,atF]at e0;rcases q:a.toList with _|⟨t,_|⟨t2,l⟩⟩<;>rw[q]at e0<;>rcases vs with _|⟨x,_|⟨y,B⟩⟩<;>try (cases e0;done)
    simp only[aad]at e0;split at e0
    ·cases e0;rfl
    ·exact aD8 e0
    ·cases e0
end
section
variable{G:Nat}{M M':Mp}{f b f' b':Hp}{w w':World}
def Rel.sub(r:Rel G M f w)(a:∀i o,b.get i=some o->f.get i=some o)(hn:f.next.nat<=b.next.nat):Rel G M b w:=
 ⟨λi o hi=>r.ob i o (a i o hi),λi hi=>r.fresh i (by omega),λi j o p L K hn hi hj=>r.sep i j o p L K hn (a _ _ hi) (a _ _ hj),r.gl⟩
def Rel.frame(r:Rel G M f w)(t:∀i o,b.get i=some o->f.get i=some o)(s:b.next=f.next)(E:Rel G M' b' w')(x:Ext M b w M' b' w')
  (y:∀i o,f'.get i=some o->b'.get i=some o\/(f.get i=some o/\b.get i=none)) (hn:f'.next=b'.next):
  Rel G M' f' w'/\Ext M f w M' f' w':=by
 have blk:∀i o L,f.get i=some o->b.get i=none->M i=some L->w'.heap[L.blk]?=w.heap[L.blk]?/\L.blk<w.heap.size:=by
  intro i o L hi hb c;obtain⟨H,d,g⟩:=r.ob i o hi;rw[c]at d;cases d;refine⟨x.same _ g.lt (λj p K hj S v e=>?_),g.lt⟩;have l:j≠i:=λe=>by subst e;rw[hb]at hj;cases hj
  exact r.sep j i p o K L l (t _ _ hj) hi S v c e
 have h:∀i o L,f.get i=some o->M' i=some L->M i=some L:=by
  intro i o L hi c;obtain⟨H,d,_⟩:=r.ob i o hi;have:=x.le _ _ d;rw[c]at this;cases this;exact d
 refine⟨⟨λi o hi=>?_,λi hi=>E.fresh i (by rw[<-hn];exact hi),λi j o p L K D hi hj g c v=>?_,E.gl⟩,⟨x.le,by rw[hn,<-s];exact x.next,x.os,x.tape,x.output,x.size,λk hk N=>?_,λi o L hi g c=>?_,λi hi C=>?_,λi o L hi c=>?_,λi hi P=>x.none i (by rw[s];exact hi) P⟩⟩
 ·rcases y i o hi with a|⟨a,u⟩
  ·exact E.ob i o a
  ·obtain⟨L,c,g⟩:=r.ob i o a;exact⟨L,x.le _ _ c,(g.of_block (blk i o L a u c).1).mono x.le⟩
 ·rcases y i o hi with a|⟨a,u⟩<;>rcases y j p hj with m|⟨m,O⟩
  ·exact E.sep i j o p L K D a m g c v
  ·have B:=h j p K m v;have J:=(blk j p K m O B).2;rcases x.own i o L a g c with z|⟨i',o',H,a1,a2,a3,n⟩
   ·omega
   ·have l:i'≠j:=λe=>by subst e;rw[O]at a1;cases a1
    rw[<-n];exact r.sep i' j o' p H K l (t _ _ a1) m a2 a3 B
  ·have d:=h i o L a c;have J:=(blk i o L a u d).2;rcases x.all j p K m v with z|⟨j',U,K',a1,a3,n⟩
   ·omega
   ·have l:i≠j':=λe=>by subst e;rw[u]at a1;cases a1
    rw[<-n];exact r.sep i j' o U L K' l a (t _ _ a1) g d a3
  ·exact r.sep i j o p L K D a m g (h i o L a c) (h j p K m v)
 ·exact x.same k hk λi o L hi g c=>N i o L (t _ _ hi) g c
 ·rcases y i o hi with a|⟨a,u⟩
  ·rcases x.own i o L a g c with z|⟨j,p,K,a1,a2,a3,n⟩
   ·exact .inl z
   ·exact .inr ⟨j,p,K,t _ _ a1,a2,a3,n⟩
  ·exact .inr ⟨i,o,L,a,g,h i o L a c,rfl⟩
 ·cases Q:f'.get i with
  |none=>rfl
  |some o=>
   rcases y i o Q with a|⟨a,_⟩
   ·have I:b.get i=none:=by
     cases hb:b.get i with
     |none=>rfl
     |some q=>have:=t i q hb;rw[C]at this;cases this
    have:=x.old i (by rw[s];exact hi) I;rw[a]at this;cases this
   ·rw[C]at a;cases a
 ·rcases y i o hi with a|⟨a,u⟩
  ·rcases x.all i o L a c with z|⟨j,p,K,a1,a3,n⟩
   ·exact .inl z
   ·exact .inr ⟨j,p,K,t _ _ a1,a3,n⟩
  ·exact .inr ⟨i,o,L,a,h i o L a c,rfl⟩
def Rel.putAt{h:Hp}(r:Rel G M h w){p:Pos}(H:M p=none)(D:p.nat<h.next.nat)(o:Ob)(c:Obj)(n:Nat)
  (J:w'.heap=w.heap.push c) (E:∀N:Mp,M.le N->jV N ⟨w.heap.size,0,n⟩ w' o):
  Rel G (M.add p ⟨w.heap.size,0,n⟩) (h.put p (some o)) w':=by
 have d:=Mp.Ut H ⟨w.heap.size,0,n⟩;have y:∀k,k<w.heap.size->w'.heap[k]?=w.heap[k]?:=λk hk=>by rw[J,B!,if_neg (by omega)]
 refine⟨λi q hi=>?_,λi hi=>?_,λi j q s L K hn hi hj I a m=>?_,λg C=>?_⟩
 ·by_cases e:i=p
  ·subst e;rw[h.dQ]at hi;cases hi;exact⟨_,M.fB _ _,E _ d⟩
  ·rw[h.dw e]at hi;obtain⟨L,a,t⟩:=r.ob i q hi;exact⟨L,by rw[M.gy e];exact a,(t.of_block (y _ t.lt)).mono d⟩
 ·have x:h.next.nat<=i.nat:=hi;have e:i≠p:=λe=>by rw[e]at x;omega
  rw[M.gy e];exact r.fresh i x
 ·by_cases z:i=p
  ·subst z;rw[M.fB]at a;cases a;have l:j≠i:=λe=>hn e.symm;rw[M.gy l]at m;rw[h.dw l]at hj;obtain⟨K',u,t⟩:=r.ob j s hj;rw[m]at u;cases u;have:=t.lt;show w.heap.size≠K.blk;omega
  ·rw[M.gy z]at a;rw[h.dw z]at hi;obtain⟨P,v,t⟩:=r.ob i q hi;rw[a]at v;cases v;by_cases l:j=p
   ·subst l;rw[M.fB]at m;cases m;have:=t.lt;show L.blk≠w.heap.size;omega
   ·rw[M.gy l]at m;rw[h.dw l]at hj;exact r.sep i j q s L K hn hi hj I a m
 ·obtain⟨O,B⟩:=r.gl g C;exact⟨O,d _ _ B⟩
def Ext.putAt{M₀:Mp}{h₀ h:Hp}{w₀:World}(x:Ext M₀ h₀ w₀ M h w){p:Pos}(u:M p=Option.none)(t:h₀.next.nat<=p.nat)(o:Ob)(c:Obj)(n:Nat)
  (s:w'.heap=w.heap.push c) (m:w'.os=w.os) (ht:w'.tape=w.tape) (g:w'.output=w.output):
  Ext M₀ h₀ w₀ (M.add p ⟨w.heap.size,0,n⟩) (h.put p (some o)) w':=by
 have j:=Mp.Ut u ⟨w.heap.size,0,n⟩;have y:w'.heap.size=w.heap.size+1:=by rw[s];simp
 have d:∀k,k<w.heap.size->w'.heap[k]?=w.heap[k]?:=λk hk=>by rw[s,B!,if_neg (by omega)]
 have r:=x.size;refine⟨Mp.le_trans x.le j,x.next,m.trans x.os,ht.trans x.tape,g.trans x.output,by omega,λk hk l=>?_,λi q L hi v a=>?_,λi hi hn=>?_,λi q L hi a=>?_,λi hi hn=>?_⟩
 ·rw[d k (by omega)];exact x.same k hk l
 ·by_cases e:i=p
  ·subst e;rw[M.fB]at a;cases a;exact .inl r
  ·rw[h.dw e]at hi;rw[M.gy e]at a;exact x.own i q L hi v a
 ·have e:i≠p:=λe=>by subst e;omega
  rw[h.dw e];exact x.old i hi hn
 ·by_cases e:i=p
  ·subst e;rw[M.fB]at a;cases a;exact .inl r
  ·rw[h.dw e]at hi;rw[M.gy e]at a;exact x.all i q L hi a
 ·have e:i≠p:=λe=>by subst e;omega
  rw[M.gy e];exact x.none i hi hn
def Rel.congr{h g:Hp}(r:Rel G M h w)(a:∀i,g.get i=h.get i)(hn:g.next=h.next):Rel G M g w:=
 r.sub (λi o hi=>by rw[<-a];exact hi) (by rw[hn];exact r! _)
def Ext.congr{M₀:Mp}{h₀ h g:Hp}{w₀:World}(x:Ext M₀ h₀ w₀ M h w)(a:∀i,g.get i=h.get i)(hn:g.next=h.next):Ext M₀ h₀ w₀ M g w:=
 ⟨x.le,by rw[hn];exact x.next,x.os,x.tape,x.output,x.size,x.same,λi o L hi=>x.own i o L (by rw[<-a];exact hi),λi hi h0=>by rw[a];exact x.old i hi h0,
  λi o L hi=>x.all i o L (by rw[<-a];exact hi),x.none⟩
def Uh(h:Hp):List (Pos×Ob)->Hp
 | []=>h
 |(p,o)::l=>(Uh h l).put p (some o)
def ax0(h:Hp)(l:List (Pos×Ob)):(Uh h l).next=h.next:=by
 induction l with
 |nil=>rfl
 |cons x l a=>exact a
def ao3{h:Hp}{l:List (Pos×Ob)}{i:Pos}(hn:∀o,(i,o)∉l):(Uh h l).get i=h.get i:=by
 induction l with
 |nil=>rfl
 |cons x l d=>
  have a:i≠x.1:=λe=>hn x.2 (by rw[e];simp);show((Uh h l).put x.1 (some x.2)).get i=_;rw[Hp.dw _ a];exact d λo c=>hn o (by simp[c])
def ao4{h:Hp}{l:List (Pos×Ob)}{i:Pos}{o:Ob}(a:(i,o)∈l)(hd:∀o',(i,o')∈l->o'=o):(Uh h l).get i=some o:=by
 induction l with
 |nil=>cases a
 |cons x l d=>
  show((Uh h l).put x.1 (some x.2)).get i=_;by_cases e:i=x.1
  ·subst e;rw[Hp.dQ];rw[hd x.2 (by simp)]
  ·rw[Hp.dw _ e];refine d ?_ (λo' c=>hd o' (by simp[c]));rcases List.mem_cons.1 a with rfl|a
   ·exact absurd rfl e
   ·exact a
end
def aua:∀{s t:List Nat},kF s t=true->s=t
 | [],[],_=>rfl
 | [],b::y,h=>by cases h
 |a::x,[],h=>by cases h
 |a::x,b::y,h=>by
  simp only[kF]at h;split at h
  ·rename_i hb;rw[a! hb,aua h]
  ·cases h
def aGE{a b:Int}(h:nR a b=true):a=b:=by rw[Bo]at h;simpa using h
def eqV(a:V):V->Bool:=
 V.rec (motive:=λ_=>V->Bool)
  (λb x=>match x with| .bool c=>(match b,c with|true,true=>true|false,false=>true|_,_=>false)|_=>false)
  (λk n x=>match x with| .int h l=>(match d! (kix k) (kix h) with|true=>nR n l|false=>false)|_=>false)
  (λs x=>match x with| .str t=>kF s t|_=>false)
  (λi o x=>match x with| .ptr j p=>(match i.eq j with|true=>d! o p|false=>false)|_=>false)
  (λx=>match x with| .cZ=>true|_=>false)
  (λi o n c x=>match x with
   | .slice j p m d=>(match i.eq j,d! o p,d! n m with
    |true,true,true=>(match c,d with| .kn a,.kn b=>d! a b| .un a,.un b=>d! a b|_,_=>false)
    |_,_,_=>false)
   |_=>false)
  (λx=>match x with| .aQ=>true|_=>false)
  (λx=>match x with| .emp=>true|_=>false)
  (λi x=>match x with| .map j=>i.eq j|_=>false)
  (λx=>match x with| .jM=>true|_=>false)
  (λ_ _ _ _ _ _=>false)
  (λx=>match x with| .fJ=>true|_=>false)
  (λt _ e x=>match x with| .iface u w=>(match d! t u with|true=>e w|false=>false)|_=>false)
  (λx=>match x with| .oQ=>true|_=>false)
  (λ_ e x=>match x with| .agg w=>e w|_=>false)
  (λ_ e x=>match x with| .tuple w=>e w|_=>false)
  (λx=>match x with| .nil=>true|_=>false)
  (λ_ _ f g x=>match x with| .cons u w=>(match f u with|true=>g w|false=>false)|_=>false)
  a
def tX:∀{a b:V},eqV a b=true->a=b:=by
 intro a;induction a with
 |bool b=>intro x h;cases x<;>first|(cases h;done)|(rename_i c;cases b<;>cases c<;>first|rfl|cases h)
 |int k n=>
  intro x h;cases x<;>try (cases h;done)
  rename_i m p;simp only[eqV]at h;split at h
  ·rename_i hk;rw[LU hk,aGE h]
  ·cases h
 |str s=>intro x h;cases x<;>first|(cases h;done)|(rename_i t;rw[aua h])
 |ptr i o=>
  intro x h;cases x<;>try (cases h;done)
  simp only[eqV]at h;split at h
  ·rename_i hi;rw[Pos.eq_iff.1 hi,a! h]
  ·cases h
 |cZ=>intro x h;cases x<;>first|(cases h;done)|rfl
 |slice i o n c=>
  intro x h;cases x<;>try (cases h;done)
  simp only[eqV]at h;split at h
  ·rename_i g j l;rw[Pos.eq_iff.1 g,a! j,a! l];split at h
   ·rw[a! h]
   ·rw[a! h]
   ·cases h
  ·cases h
 |aQ=>intro x h;cases x<;>first|(cases h;done)|rfl
 |emp=>intro x h;cases x<;>first|(cases h;done)|rfl
 |map i=>intro x h;cases x<;>first|(cases h;done)|(rw[Pos.eq_iff.1 h])
 |jM=>intro x h;cases x<;>first|(cases h;done)|rfl
 |func fn a b e f=>intro x h;cases h
 |fJ=>intro x h;cases x<;>first|(cases h;done)|rfl
 |iface t v d=>
  intro x h;cases x<;>try (cases h;done)
  simp only[eqV]at h;split at h
  ·rename_i ht;rw[a! ht,d h]
  ·cases h
 |oQ=>intro x h;cases x<;>first|(cases h;done)|rfl
 |agg a d=>intro x h;cases x<;>first|(cases h;done)|(rw[d h])
 |tuple a d=>intro x h;cases x<;>first|(cases h;done)|(rw[d h])
 |nil=>intro x h;cases x<;>first|(cases h;done)|rfl
 |cons a b e f=>
  intro x h;cases x<;>try (cases h;done)
  simp only[eqV]at h;split at h
  ·rename_i ht;rw[e ht,f h]
  ·cases h
end Go.Vm
