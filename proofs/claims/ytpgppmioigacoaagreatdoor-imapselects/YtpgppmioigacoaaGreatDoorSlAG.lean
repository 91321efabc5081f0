/- Part of the value machine, or of a walk by it: lemmas that the claim's last text uses. No conditions. -/
import Derived.Test.YtpgppmioigacoaaGreatDoorSlAF
set_option linter.unusedVariables false
set_option linter.unusedSimpArgs false
set_option linter.unnecessarySimpa false
namespace Go.Vm
noncomputable section
variable{P:Program}{e:FuncId→Option Fun}{ops:Array Oper}{sb:Nat→Nat→Bool}{fr:F}
inductive Cls where
 |pure
 |read (cnt:Nat)
 |alloc
 |heavy
 |own (a:Nat)
 |ins (a:Nat)
abbrev Plan:=List (Nat×Cls)
def HY(ops:Array Oper)(sb:Nat→Nat→Bool)(i t:Nat):Bool:=(List.range ops.size).any fun i'=>(match ops[i']? with
 |some o'=>(match o'.dst with|some d=>(match Nat.beq d t with|true=>sb i' i|false=>false)|none=>false)
 |none=>false)
def aks(ops:Array Oper)(sb:Nat→Nat→Bool)(fr:F)(i:Nat)(env:Env)(x:Operand)(k:V→Out):Out:=match x with
 | .tmp t=>(match HY ops sb i t with
  |true=>(match dn t env with|some v=>k v|none=>.bad)
  |false=>gt (Pos.of t) fr k)
 | .const c=>(match const c with|some v=>k v|none=>.bad)
 | .global g=>k (.ptr (Pos.of g) 0)
 | .func f=>k (.func (.func f) .nil .nil)
def zO(ops:Array Oper)(sb:Nat→Nat→Bool)(fr:F)(i:Nat)(env:Env):List Operand→(List V→Out)→Out
 | [],k=>k []
 |x::l,k=>aks ops sb fr i env x fun v=>zO ops sb fr i env l fun vs=>k (v::vs)
def vJ(d:Option Nat)(v:V)(env:Env)(k:Env→Out):Out:=match d with
 |none=>k env
 |some d=>(match dn d env with|none=>k ((d,v)::env)|some _=>.bad)
def chk(m:Hp→R V)(v:V)(k:Out):Nat→List Hp→Out
 |0,_=>k
 |_+1,[]=>k
 |n+1,g::l=>(match m g with| .ok v' _=>(match eqV v v' with|true=>chk m v k n l|false=>.bad)| .bad=>.bad)
def ahD(P:Program)(op:Op):Bool:=match op with
 | .convert s d _=>(match P.underlying s,P.underlying d with
  |some (.slice _),some .string=>true
  |_,_=>false)
 |_=>false
def akk(v:V):Option Pos:=match v with| .slice i _ _ _=>some i|_=>none
def aHD(u:V)(q:Pos)(k:Out):Out:=match akk u with
 |some p=>(match Nat.blt p.nat q.nat with|true=>k|false=>.bad)
 |none=>.bad
theorem auM{op:Op}{u:V}{p:Pos}(ho:ahD P op=true)(hu:akk u=some p){h g h':Hp}{v:V}(hg:g.get p=h.get p)(e0:iQ P e op [u] h=.ok v h'):iQ P e op [u] g=.ok v g:=by
 cases op<;>simp only [ahD] at ho<;>try (cases ho;done)
 rename_i s d x
 show xP P s d u g=.ok v g
 have e1:xP P s d u h=.ok v h':=e0
 unfold xP at e1⊢
 split at ho
 ·rename_i el h1 h2
  rw [h1,h2] at e1⊢
  simp only [] at e1⊢
  split at e1
  ·rename_i h3
   cases u<;>try (cases hu;done)
   rename_i i o n c
   cases hu
   have e2:dQ h p (fun _ cs=>(match gB n (fG o cs) with
    |some l=>(match qO l with|some s=>R.ok (V.str s) h|none=>.bad)
    |none=>.bad))=.ok v h':=e1
   show dQ g p (fun _ cs=>(match gB n (fG o cs) with
    |some l=>(match qO l with|some s=>R.ok (V.str s) g|none=>.bad)
    |none=>.bad))=.ok v g
   unfold dQ at e2⊢
   rw [hg]
   cases ho2:h.get p with
   |none=>rw [ho2] at e2;cases e2
   |some ob=>
    rw [ho2] at e2
    have fin:∀cs:List V,(match gB n (fG o cs) with
      |some l=>(match qO l with|some s=>R.ok (V.str s) h|none=>.bad)
      |none=>.bad)=.ok v h'→(match gB n (fG o cs) with
      |some l=>(match qO l with|some s=>R.ok (V.str s) g|none=>.bad)
      |none=>.bad)=R.ok v g:=by
     intro cs e3
     split at e3
     ·rename_i l hl
      split at e3
      ·rename_i s hs
       cases e3
       rfl
      ·cases e3
     ·cases e3
    cases ob<;>first|exact fin _ e2|cases e2
  ·cases e1
 ·cases ho
theorem aAd{op:Op}{u:V}{p:Pos}(ho:ahD P op=true)(hu:akk u=some p){h h':Hp}{v:V}(e0:iQ P e op [u] h=.ok v h'):∃cs,(h.get p).bind Ob.row=some cs:=by
 cases op<;>simp only [ahD] at ho<;>try (cases ho;done)
 rename_i s d x
 have e1:xP P s d u h=.ok v h':=e0
 unfold xP at e1
 split at ho
 ·rename_i el h1 h2
  rw [h1,h2] at e1
  simp only [] at e1
  split at e1
  ·cases u<;>try (cases hu;done)
   rename_i i o n c
   cases hu
   have e2:dQ h p (fun _ cs=>(match gB n (fG o cs) with
    |some l=>(match qO l with|some s=>R.ok (V.str s) h|none=>.bad)
    |none=>.bad))=.ok v h':=e1
   obtain⟨w,cs,h3,_⟩:=gK e2
   exact⟨_,h3⟩
  ·cases e1
 ·cases ho
theorem aIp{op:Op}{vs:List V}{ob:Ob}{mk:Pos→V}(e0:Bv P op vs=some (ob,mk)){p i:Pos}(h:akk (mk p)=some i):i=p:=by
 have key:∀{m:Pos→V},(∀p,akk (m p)=none∨akk (m p)=some p)→mk=m→i=p:=fun hm hmk=>by
  rw [hmk] at h
  rcases hm p with h1|h1
  ·rw [h1] at h;cases h
  ·rw [h1] at h;cases h;rfl
 have slice:∀{l o:Nat} {c:Cap},mk=(fun p=>.slice p o l c)→i=p:=fun hmk=>key (fun p=>.inr rfl) hmk
 have ptr:∀{o:Nat},mk=(fun p=>.ptr p o)→i=p:=fun hmk=>key (fun p=>.inl rfl) hmk
 have ab:∀{el:TypeId} {z:List V} {len:Nat} {qs:List (Nat×Nat×V)},fD el z len qs=some (ob,mk)→i=p:=fun e1=>by
  unfold fD at e1
  split at e1
  ·cases e1;exact slice rfl
  ·cases e1
 cases op<;>simp only [Bv] at e0<;>try (cases e0;done)
 case alloc t=>
  split at e0
  ·split at e0
   ·cases e0;exact ptr rfl
   ·cases e0
  ·cases e0
 case box t x=>
  split at e0
  ·unfold akS at e0
   split at e0
   ·cases e0;exact ptr rfl
   ·cases e0
  ·cases e0
 case buildSlice t len ps=>
  split at e0
  ·unfold atP at e0
   (repeat' split at e0)<;>first|(cases e0;exact slice rfl)|cases e0
  ·unfold Ia at e0
   (repeat' split at e0)<;>first|exact ab e0|cases e0
 case makeSlice t l c=>
  unfold Ij at e0
  (repeat' split at e0)<;>first|(cases e0;exact slice rfl)|cases e0
 case makeMap t r=>
  (repeat' split at e0)<;>first|(cases e0;exact key (fun p=>.inl rfl) rfl)|cases e0
 case convert s d x=>
  unfold Ou at e0
  (repeat' split at e0)<;>first|(cases e0;exact slice rfl)|cases e0
def apX(x:V)(es:List (V×V)):Bool:=List.rec (motive:=fun _=>Bool) true (fun p _ ih=>match iR x p.1 with|some b=>(match b with|true=>false|false=>ih)|none=>false) es
theorem aAr{x:V}:∀{es:List (V×V)},apX x es=true→∀(n:Nat) k v,es[n]?=some (k,v)→iR x k=some false
 | [],_,n,k,v,hn=>by simp at hn
 |(k0,v0)::es,h,n,k,v,hn=>by
  have e:apX x ((k0,v0)::es)=(match iR x k0 with|some b=>(match b with|true=>false|false=>apX x es)|none=>false):=rfl
  rw [e] at h
  split at h
  ·rename_i b hb
   split at h
   ·cases h
   ·cases n with
    |zero=>simp at hn;obtain⟨rfl,rfl⟩:=hn;exact hb
    |succ n=>exact aAr h n k v (by simpa using hn)
  ·cases h
def aH1(d:TypeDesc)(m x y:V)(base cur:Hp)(q:Pos)(k:Hp→Out):Out:=match nM d x with
 |true=>(match m with
  | .map p=>(match Nat.blt p.nat q.nat with
   |true=>(match base.get p with
    |none=>(match cur.get p with
     |some ob=>(match ob with
      | .map es=>(match apX x es with|true=>k (cur.put p (some (.map (es++ [(x,y)]))))|false=>.bad)
      |_=>.bad)
     |none=>.bad)
    |some _=>.bad)
   |false=>.bad)
  |_=>.bad)
 |false=>.bad
def akE(P:Program)(op:Op)(vs:List V)(base cur:Hp)(q:Pos)(k:Hp→Out):Out:=match op with
 | .insert t _ _ _=>(match P.underlying t with
  |some (.map kt _)=>(match P.underlying kt with|some d=>(match vs with| [m,x,y]=>aH1 d m x y base cur q k|_=>.bad)|none=>.bad)
  |_=>.bad)
 |_=>.bad
def aJr(P:Program)(op:Op)(x:V):Prop:=∃t mm kk vv kt et d,op=.insert t mm kk vv∧P.underlying t=some (.map kt et)∧P.underlying kt=some d∧nM d x=true
theorem aAz{op:Op}{vs:List V}{base cur:Hp}{q:Pos}{k:Hp→Out}{out:Out}(hb:out≠ .bad)(h:akE P op vs base cur q k=out):
  ∃p x y es,vs= [.map p,x,y]∧aJr P op x∧p.nat<q.nat∧base.get p=none∧cur.get p=some (.map es)∧apX x es=true∧k (cur.put p (some (.map (es++ [(x,y)]))))=out:=by
 unfold akE at h
 split at h
 ·rename_i t mm kk vv
  split at h
  ·rename_i kt et hkt
   split at h
   ·rename_i d hd
    split at h
    ·rename_i m x y
     unfold aH1 at h
     split at h
     ·rename_i hf
      split at h
      ·rename_i p
       split at h
       ·rename_i hlt
        split at h
        ·rename_i hbp
         split at h
         ·rename_i ob hcp
          split at h
          ·rename_i es
           split at h
           ·rename_i hn
            exact⟨p,x,y,es,rfl,⟨t,mm,kk,vv,kt,et,d,rfl,hkt,hd,hf⟩,by simpa [Nat.blt_eq] using hlt,hbp,hcp,hn,h⟩
           ·exact absurd h.symm hb
          ·exact absurd h.symm hb
         ·exact absurd h.symm hb
        ·exact absurd h.symm hb
       ·exact absurd h.symm hb
      ·exact absurd h.symm hb
     ·exact absurd h.symm hb
    ·exact absurd h.symm hb
   ·exact absurd h.symm hb
  ·exact absurd h.symm hb
 ·exact absurd h.symm hb
def sJ(P:Program)(e:FuncId→Option Fun)(o:Oper)(c:Cls)(vs:List V)(base cur:Hp)(past:List Hp)(q:Pos)(k:V→Hp→Hp→List Hp→Pos→Out):Out:=match c with
 | .pure=>(match Uw P o.op with|true=>bnd (iQ P e o.op vs) base (fun v _=>k v base cur past q)|false=>.bad)
 | .read cnt=>(match amI P o.op with|true=>bnd (iQ P e o.op vs) base (fun v _=>chk (iQ P e o.op vs) v (k v base cur past q) cnt past)|false=>.bad)
 | .alloc=>(match Bv P o.op vs with|some (ob,mk)=>k (mk q) base (cur.put q (some ob)) past q.succ|none=>.bad)
 | .heavy=>bnd (iQ P e o.op vs) cur (fun v h=>k v h h (base::past) q)
 | .own _=>(match vs with
  | [u]=>(match ahD P o.op with|true=>aHD u q (bnd (iQ P e o.op [u]) cur (fun v _=>k v base cur past q))|false=>.bad)
  |_=>.bad)
 | .ins _=>akE P o.op vs base cur q fun cur=>k V.undef base cur past q
def Nu(c:Cls)(base cur:Hp)(past:List Hp)(q:Pos)(k:Hp→Hp→List Hp→Pos→Out):Out:=match c with
 | .heavy=>k cur cur (base::past) q
 | .alloc=>k base cur past q
 | .pure=>k base cur past q
 | .read _=>k base cur past q
 | .own _=>k base cur past q
 | .ins _=>k base cur past q
def aH4(v:V)(b:Bool)(yes no:Out):Out:=match v with
 | .bool c=>(match b,c with|true,true=>yes|false,false=>yes|_,_=>no)
 | .tuple _=>no
 |_=>.bad
def xO(P:Program)(e:FuncId→Option Fun)(ops:Array Oper)(sb:Nat→Nat→Bool)(fr:F)(k:Env→Hp→Out):Plan→Env→Hp→Hp→List Hp→Pos→Out
 | [],env,_,cur,_,_=>k env cur
 |(i,c)::l,env,base,cur,past,q=>(match ops[i]? with
  |none=>.bad
  |some o=>(match o.guard with
   |none=>zO ops sb fr i env o.op.operands.toList fun vs=>sJ P e o c vs base cur past q fun v base cur past q=>vJ o.dst v env fun env=>xO P e ops sb fr k l env base cur past q
   |some (g,b)=>(match (ops[g]?).bind (·.dst) with
    |none=>.bad
    |some d=>(match dn d env with
     |none=>.bad
     |some v=>aH4 v b
      (zO ops sb fr i env o.op.operands.toList fun vs=>sJ P e o c vs base cur past q fun v base cur past q=>vJ o.dst v env fun env=>xO P e ops sb fr k l env base cur past q)
      (Nu c base cur past q fun base cur past q=>vJ o.dst V.undef env fun env=>xO P e ops sb fr k l env base cur past q)))))
def Src(ops:Array Oper)(sb:Nat→Nat→Bool)(fr:F)(E:Env)(i:Nat)(x:Operand)(v:V):Prop:=match x with
 | .tmp t=>(HY ops sb i t=true∧dn t E=some v)∨(HY ops sb i t=false∧fr.get (Pos.of t)=some v)
 | .const c=>const c=some v
 | .global g=>v=.ptr (Pos.of g) 0
 | .func f=>v=.func (.func f) .nil .nil
def U6(ops:Array Oper)(sb:Nat→Nat→Bool)(fr:F)(E:Env)(i:Nat):List Operand→List V→Prop
 | [],vs=>vs= []
 |x::l,vs=>∃v us,vs=v::us∧Src ops sb fr E i x v∧U6 ops sb fr E i l us
def Wanted(ops:Array Oper)(E:Env)(i:Nat):Prop:=∃o,ops[i]?=some o∧(o.guard=none∨∃g b d,o.guard=some (g,b)∧(ops[g]?).bind (·.dst)=some d∧dn d E=some (.bool b))
structure Tr where
 E:Env
 Bs:Nat→Hp
 Cs:Nat→Hp
 A:List (Nat×Nat×Pos×Ob)
 I:List (Nat×Nat×Pos×V×V)
def ent(I:List (Nat×Nat×Pos×V×V))(b:Nat→Bool)(j:Nat)(p:Pos):List (V×V):=
 I.filterMap fun y=>if y.2.1=j∧y.2.2.1=p∧b y.1=true then some y.2.2.2 else none
def KN(es:List (V×V)):Ob→Ob
 | .map l=>.map (l++es)
 |o=>o
theorem KL(o:Ob):KN [] o=o:=by cases o<;>simp [KN]
theorem Zj{I:List (Nat×Nat×Pos×V×V)}{b:Nat→Bool}{j:Nat}{p:Pos}(h:∀y∈I,y.2.1=j→y.2.2.1=p→b y.1=false):ent I b j p= []:=by
 unfold ent
 rw [List.filterMap_eq_nil_iff]
 intro y hy
 rw [if_neg]
 rintro⟨h1,h2,h3⟩
 rw [h y hy h1 h2] at h3;cases h3
theorem Gt{I:List (Nat×Nat×Pos×V×V)}{b b':Nat→Bool}{j:Nat}{p:Pos}(h:∀y∈I,y.2.1=j→y.2.2.1=p→b y.1=b' y.1):ent I b j p=ent I b' j p:=by
 induction I with
 |nil=>rfl
 |cons y I ih=>
  have ih:=ih fun z hz=>h z (by simp [hz])
  have hy:=h y (by simp)
  unfold ent at ih⊢
  rw [List.filterMap_cons,List.filterMap_cons,ih]
  by_cases h1:y.2.1=j
  ·by_cases h2:y.2.2.1=p
   ·rw [hy h1 h2]
   ·simp [h2]
  ·simp [h1]
theorem KG(y:Nat×Nat×Pos×V×V)(I:List (Nat×Nat×Pos×V×V))(b:Nat→Bool)(j:Nat)(p:Pos):ent (y::I) b j p=(if y.2.1=j∧y.2.2.1=p∧b y.1=true then [y.2.2.2] else [])++ent I b j p:=by
 unfold ent
 rw [List.filterMap_cons]
 by_cases h:y.2.1=j∧y.2.2.1=p∧b y.1=true
 ·rw [if_pos h,if_pos h];rfl
 ·rw [if_neg h,if_neg h];rfl
theorem aKi(I:List (Nat×Nat×Pos×V×V))(b:Nat→Bool)(j:Nat)(p:Pos):List.Sublist (ent I b j p) (ent I (fun _=>true) j p):=by
 induction I with
 |nil=>exact List.Sublist.refl _
 |cons y I ih=>
  rw [KG,KG]
  refine List.Sublist.append ?_ ih
  by_cases h:y.2.1=j∧y.2.2.1=p∧b y.1=true
  ·rw [if_pos h,if_pos ⟨h.1,h.2.1,rfl⟩]
   exact List.Sublist.refl _
  ·rw [if_neg h]
   exact List.nil_sublist _
theorem aqd{y:Nat×Nat×Pos×V×V}{b b':Nat→Bool}:∀{I:List (Nat×Nat×Pos×V×V)},(I.map (·.1)).Nodup→y∈I→b y.1=false→b' y.1=true→(∀k,k≠y.1→b' k=b k)→
  List.Perm (ent I b' y.2.1 y.2.2.1) (ent I b y.2.1 y.2.2.1++ [y.2.2.2])
 | [],_,hy,_,_,_=>by cases hy
 |z::I,hn,hy,h0,h1,hk=>by
  have hn':=List.nodup_cons.1 (by simpa using hn:(z.1::I.map (·.1)).Nodup)
  rw [KG,KG]
  rcases List.mem_cons.1 hy with rfl|hy
  ·rw [if_pos ⟨rfl,rfl,h1⟩,if_neg (fun h=>by rw [h0] at h;cases h.2.2)]
   rw [Gt (b:=b') (b':=b) (fun w hw _ _=>hk _ fun e=>hn'.1 (by rw [←e];exact List.mem_map_of_mem hw))]
   exact(List.perm_append_singleton _ _).symm
  ·have hz:z.1≠y.1:=fun e=>hn'.1 (by rw [e];exact List.mem_map_of_mem hy)
   rw [hk _ hz,List.append_assoc]
   exact(aqd hn'.2 hy h0 h1 hk).append_left _
def aPX(P:Program)(e:FuncId→Option Fun)(T:Tr)(i:Nat)(o:Oper)(j:Nat)(c:Cls)(vs:List V)(v:V):Prop:=match c with
 | .pure=>Uw P o.op=true∧∃h h',iQ P e o.op vs h=.ok v h'
 | .read cnt=>amI P o.op=true∧∀j',j'≤j→j≤j'+cnt→∃h',iQ P e o.op vs (T.Bs j')=.ok v h'
 | .alloc=>∃ob mk p,Bv P o.op vs=some (ob,mk)∧v=mk p∧(i,j,p,ob)∈T.A
 | .heavy=>iQ P e o.op vs (T.Cs j)=.ok v (T.Bs (j+1))
 | .own _=>∃u p h',vs= [u]∧ahD P o.op=true∧akk u=some p∧iQ P e o.op [u] (T.Cs j)=.ok v h'
 | .ins _=>∃p x y,vs= [.map p,x,y]∧aJr P o.op x∧v=V.undef∧(i,j,p,x,y)∈T.I
def jU(P:Program)(e:FuncId→Option Fun)(ops:Array Oper)(sb:Nat→Nat→Bool)(fr:F)(T:Tr)(i:Nat)(c:Cls)(j:Nat):Prop:=
 ∃o,ops[i]?=some o∧
  (((o.guard=none∨∃g b d,o.guard=some (g,b)∧(ops[g]?).bind (·.dst)=some d∧dn d T.E=some (.bool b))∧
   ∃vs v,U6 ops sb fr T.E i o.op.operands.toList vs∧(∀d,o.dst=some d→dn d T.E=some v)∧aPX P e T i o j c vs v)∨
  ((∃g b d,o.guard=some (g,b)∧(ops[g]?).bind (·.dst)=some d∧(dn d T.E=some (.bool (!b))∨∃l,dn d T.E=some (.tuple l)))∧
   (∀d,o.dst=some d→dn d T.E=some V.undef)∧(c=.heavy→T.Bs (j+1)=T.Cs j)))
def phased:Nat→Plan→List (Nat×Cls×Nat)
 |_,[]=> []
 |j,(i,c)::l=>(i,c,j)::phased (match c with| .heavy=>j+1|_=>j) l
def bQ:Plan→Nat
 | []=>0
 |(_,c)::l=>(match c with| .heavy=>bQ l+1|_=>bQ l)
def jB:Plan→Nat
 | []=>0
 |(_,c)::l=>(match c with| .alloc=>jB l+1|_=>jB l)
theorem arB{i:Nat}{c:Cls}{j:Nat}:∀{j₀:Nat} {l:Plan},(i,c,j)∈phased j₀ l→j₀≤j
 |j₀,(i',c')::l,h=>by
  rcases List.mem_cons.1 h with h|h
  ·cases h;exact Nat.le_refl _
  ·have:=arB h
   cases c'<;>simp only [] at this<;>omega
theorem U6.mono{E E':Env}(hE:∀t v,dn t E=some v→dn t E'=some v){i:Nat}:∀{l:List Operand} {vs:List V},U6 ops sb fr E i l vs→U6 ops sb fr E' i l vs
 | [],_,h=>h
 |x::l,_,⟨v,us,e,h1,h2⟩=>⟨v,us,e,by
   cases x with
   |tmp t=>exact h1.imp (fun h=>⟨h.1,hE _ _ h.2⟩) id
   |const c=>exact h1
   |global g=>exact h1
   |func f=>exact h1,U6.mono hE h2⟩
theorem auS{i:Nat}{env:Env}{out:Out}(hb:out≠ .bad):∀{l:List Operand} {k:List V→Out},zO ops sb fr i env l k=out→∃vs,k vs=out∧U6 ops sb fr env i l vs
 | [],k,h=>⟨[],h,rfl⟩
 |x::l,k,h=>by
  unfold zO at h
  have:∃v,zO ops sb fr i env l (fun vs=>k (v::vs))=out∧Src ops sb fr env i x v:=by
   cases x with
   |tmp t=>
    simp only [aks] at h
    split at h
    ·rename_i hs
     split at h
     ·rename_i v hv;exact⟨v,h,.inl ⟨hs,hv⟩⟩
     ·exact absurd h.symm hb
    ·rename_i hs
     unfold gt at h
     split at h
     ·rename_i v hv;exact⟨v,h,.inr ⟨hs,hv⟩⟩
     ·exact absurd h.symm hb
   |const c=>
    simp only [aks] at h
    split at h
    ·rename_i v hv;exact⟨v,h,hv⟩
    ·exact absurd h.symm hb
   |global g=>exact⟨_,h,rfl⟩
   |func f=>exact⟨_,h,rfl⟩
  obtain⟨v,h1,h2⟩:=this
  obtain⟨vs,h3,h4⟩:=auS hb h1
  exact⟨v::vs,h3,v,vs,rfl,h2,h4⟩
theorem Gu{d:Option Nat}{v:V}{env:Env}{k:Env→Out}{out:Out}(hb:out≠ .bad)(h:vJ d v env k=out):
  ∃env',k env'=out∧(∀t u,dn t env=some u→dn t env'=some u)∧∀x,d=some x→dn x env'=some v:=by
 unfold vJ at h
 split at h
 ·exact⟨env,h,fun _ _ h=>h,fun x hx=>by cases hx⟩
 ·rename_i d
  split at h
  ·rename_i hn
   refine⟨_,h,fun t u ht=>?_,fun x hx=>?_⟩
   ·rw [jA]
    split
    ·rename_i e;subst e;rw [hn] at ht;cases ht
    ·exact ht
   ·cases hx;rw [jA,if_pos rfl]
  ·exact absurd h.symm hb
theorem aFs{m:Hp→R V}{v:V}{k out:Out}(hb:out≠ .bad):∀{n:Nat} {l:List Hp},chk m v k n l=out→k=out∧∀r g,r<n→l[r]?=some g→∃h',m g=.ok v h'
 |0,_,h=>⟨by cases‹List Hp›<;>exact h,fun r g hr=>by omega⟩
 |n+1,[],h=>⟨h,fun r g _ hg=>by cases hg⟩
 |n+1,g::l,h=>by
  unfold chk at h
  split at h
  ·rename_i v' h' hm
   split at h
   ·rename_i hv
    obtain⟨h1,h2⟩:=aFs hb h
    refine⟨h1,fun r g' hr hg=>?_⟩
    cases r with
    |zero=>cases hg;rw [uf hv];exact⟨_,hm⟩
    |succ r=>exact h2 r g' (by omega) hg
   ·exact absurd h.symm hb
  ·exact absurd h.symm hb
structure Told (P:Program) (e:FuncId→Option Fun) (ops:Array Oper) (sb:Nat→Nat→Bool) (fr:F) (k:Env→Hp→Out) (l:Plan) (env:Env) (base cur:Hp) (past pc:List Hp) (q:Pos) (out:Out) (T:Tr):Prop where
 tEnv:∀t v,dn t env=some v→dn t T.E=some v
 tBase:T.Bs past.length=base
 tPast:∀r g,past[r]?=some g→T.Bs (past.length - 1 - r)=g
 tPc:∀r g,pc[r]?=some g→T.Cs (past.length - 1 - r)=g
 steps:∀i c j,(i,c,j)∈phased past.length l→jU P e ops sb fr T i c j
 a1:∀i j p ob,(i,j,p,ob)∈T.A→q.nat≤p.nat∧p.nat<q.nat+jB l∧(i,.alloc,j)∈phased past.length l∧(T.Cs j).get p=some (KN (ent T.I (fun _=>true) j p) ob)∧Wanted ops T.E i
 a2:∀a a',a∈T.A→a'∈T.A→a.2.2.1=a'.2.2.1→a=a'
 a3:∀a a',a∈T.A→a'∈T.A→a.1=a'.1→a=a'
 cs:∀x,(∀i ob,(i,past.length,x,ob)∉T.A)→(T.Cs past.length).get x=(cur.get x).map (KN (ent T.I (fun _=>true) past.length x))
 i1:∀i j p x y,(i,j,p,x,y)∈T.I→((j=past.length∧base.get p=none∧∃es,cur.get p=some (.map es))∨∃a ob,(a,j,p,ob)∈T.A)∧(∃a,(i,.ins a,j)∈phased past.length l)∧Wanted ops T.E i
 i2:(T.I.map (·.1)).Nodup
 i3:∀x es,(∀i ob,(i,past.length,x,ob)∉T.A)→cur.get x=some (.map es)→ig es→ig (es++ent T.I (fun _=>true) past.length x)
 i4:∀i j p es,(i,j,p,.map es)∈T.A→ig es→ig (es++ent T.I (fun _=>true) j p)
 cn:(T.Cs past.length).next=cur.next
 ct:∀j,past.length<j→(∀x,(∀i ob,(i,j,x,ob)∉T.A)→(T.Cs j).get x=(T.Bs j).get x)∧(T.Cs j).next=(T.Bs j).next
 out:k T.E (T.Cs (past.length+bQ l))=out
variable{k:Env→Hp→Out}{l:Plan}{env env':Env}{base cur:Hp}{past pc:List Hp}{q:Pos}{out:Out}{T:Tr}{i:Nat}{c:Cls}
theorem Told.stay(t:Told P e ops sb fr k l env' base cur past pc q out T)(hE:∀t v,dn t env=some v→dn t env'=some v)(hc:c≠ .heavy)
  (h1:jU P e ops sb fr T i c past.length):Told P e ops sb fr k ((i,c)::l) env base cur past pc q out T:=by
 have hp:phased past.length ((i,c)::l)=(i,c,past.length)::phased past.length l:=by cases c<;>first|rfl|exact absurd rfl hc
 have hh:bQ ((i,c)::l)=bQ l:=by cases c<;>first|rfl|exact absurd rfl hc
 have ha:jB l≤jB ((i,c)::l):=by cases c<;>simp [jB]
 refine⟨fun x v h=>t.tEnv x v (hE x v h),t.tBase,t.tPast,t.tPc,fun i' c' j' h=>?_,fun i' j p ob h=>?_,t.a2,t.a3,t.cs,fun i' j p x y h=>?_,t.i2,t.i3,t.i4,t.cn,t.ct,by rw [hh];exact t.out⟩
 ·rw [hp] at h
  rcases List.mem_cons.1 h with h|h
  ·cases h;exact h1
  ·exact t.steps i' c' j' h
 ·obtain⟨g1,g2,g3,g4⟩:=t.a1 i' j p ob h
  exact⟨g1,by omega,by rw [hp];exact List.mem_cons_of_mem _ g3,g4⟩
 ·obtain⟨g1,⟨a,g2⟩,g3⟩:=t.i1 _ _ _ _ _ h
  exact⟨g1,⟨a,by rw [hp];exact List.mem_cons_of_mem _ g2⟩,g3⟩
theorem jU.more{x:Nat×Nat×Pos×Ob}{i:Nat}{c:Cls}{j:Nat}(h:jU P e ops sb fr T i c j):jU P e ops sb fr {T with A:=x::T.A} i c j:=by
 obtain⟨o,ho,h⟩:=h
 refine⟨o,ho,h.imp (fun⟨h1,vs,v,h2,h3,h4⟩=>⟨h1,vs,v,h2,h3,?_⟩) id⟩
 cases c with
 |pure=>exact h4
 |read cnt=>exact h4
 |heavy=>exact h4
 |own a=>exact h4
 |ins a=>exact h4
 |alloc=>
  obtain⟨ob,mk,p,a,b,d⟩:=h4
  exact⟨ob,mk,p,a,b,List.mem_cons_of_mem _ d⟩
theorem jU.aPC{x:Nat×Nat×Pos×V×V}{i:Nat}{c:Cls}{j:Nat}(h:jU P e ops sb fr T i c j):jU P e ops sb fr {T with I:=x::T.I} i c j:=by
 obtain⟨o,ho,h⟩:=h
 refine⟨o,ho,h.imp (fun⟨h1,vs,v,h2,h3,h4⟩=>⟨h1,vs,v,h2,h3,?_⟩) id⟩
 cases c with
 |pure=>exact h4
 |read cnt=>exact h4
 |heavy=>exact h4
 |own a=>exact h4
 |alloc=>exact h4
 |ins a=>
  obtain⟨p,x,y,a,b,d,e⟩:=h4
  exact⟨p,x,y,a,b,d,List.mem_cons_of_mem _ e⟩
theorem Told.alloc{ob:Ob}(hi:∀c j,(i,c,j)∉phased past.length l)(t:Told P e ops sb fr k l env' base (cur.put q (some ob)) past pc q.succ out T)(hE:∀t v,dn t env=some v→dn t env'=some v)
  (h1:jU P e ops sb fr {T with A:=(i,past.length,q,ob)::T.A} i .alloc past.length) (hw:Wanted ops T.E i):
  Told P e ops sb fr k ((i,.alloc)::l) env base cur past pc q out {T with A:=(i,past.length,q,ob)::T.A}:=by
 have hq:q.succ.nat=q.nat+1:=Pos.eY q
 have hno:∀i' j ob',(i',j,q,ob')∉T.A:=fun i' j ob' h=>by
  have:=(t.a1 _ _ _ _ h).1
  omega
 refine⟨fun x v h=>t.tEnv x v (hE x v h),t.tBase,t.tPast,t.tPc,fun i' c' j' h=>?_,fun i' j p ob' h=>?_,fun a a' ha ha' hp=>?_,fun a a' ha ha' hp=>?_,fun x hx=>?_,fun i' j p x y h=>?_,t.i2,fun x es hx hc hk=>?_,fun i' j p es h hk=>?_,t.cn,fun j hj=>⟨fun x hx=>?_,(t.ct j hj).2⟩,t.out⟩
 ·rcases List.mem_cons.1 h with h|h
  ·cases h;exact h1
  ·exact(t.steps i' c' j' h).more
 ·have hal:jB ((i,.alloc)::l)=jB l+1:=rfl
  rcases List.mem_cons.1 h with h|h
  ·cases h
   obtain⟨o,ho,hst⟩:=h1
   refine⟨Nat.le_refl _,by omega,List.mem_cons_self ..,?_,hw⟩
   show(T.Cs past.length).get q=some _
   rw [t.cs q (fun i' ob'=>hno i' _ ob'),Hp.dW];rfl
  ·obtain⟨g1,g2,g3,g4⟩:=t.a1 i' j p ob' h
   exact⟨by omega,by omega,List.mem_cons_of_mem _ g3,g4⟩
 ·rcases List.mem_cons.1 ha with h1|h1<;>rcases List.mem_cons.1 ha' with h2|h2
  ·rw [h1,h2]
  ·rw [h1] at hp
   exact absurd (show(a'.1,a'.2.1,q,a'.2.2.2)∈T.A by rw [show q=a'.2.2.1 from hp];exact h2) (hno _ _ _)
  ·rw [h2] at hp
   exact absurd (show(a.1,a.2.1,q,a.2.2.2)∈T.A by rw [show q=a.2.2.1 from hp.symm];exact h1) (hno _ _ _)
  ·exact t.a2 a a' h1 h2 hp
 ·rcases List.mem_cons.1 ha with h1|h1<;>rcases List.mem_cons.1 ha' with h2|h2
  ·rw [h1,h2]
  ·rw [h1] at hp
   have:=(t.a1 _ _ _ _ h2).2.2.1
   rw [←show i=a'.1 from hp] at this
   exact absurd this (hi _ _)
  ·rw [h2] at hp
   have:=(t.a1 _ _ _ _ h1).2.2.1
   rw [show a.1=i from hp] at this
   exact absurd this (hi _ _)
  ·exact t.a3 a a' h1 h2 hp
 ·have hne:x≠q:=fun e=>by subst e;exact hx i ob (by simp)
  show(T.Cs past.length).get x=_
  rw [t.cs x (fun i' ob' h=>hx i' ob' (List.mem_cons_of_mem _ h)),Hp.cZ _ hne]
 ·obtain⟨g1,⟨a,g2⟩,g3⟩:=t.i1 _ _ _ _ _ h
  refine⟨?_,⟨a,List.mem_cons_of_mem _ g2⟩,g3⟩
  rcases g1 with⟨e1,e2,es,e3⟩|⟨a,ob',e1⟩
  ·by_cases hpq:p=q
   ·subst hpq
    exact .inr ⟨i,ob,by rw [e1];simp⟩
   ·rw [Hp.cZ _ hpq] at e3
    exact .inl ⟨e1,e2,es,e3⟩
  ·exact .inr ⟨a,ob',List.mem_cons_of_mem _ e1⟩
 ·have hne:x≠q:=fun e=>by subst e;exact hx i ob (by simp)
  exact t.i3 x es (fun i' ob' h=>hx i' ob' (List.mem_cons_of_mem _ h)) (by rw [Hp.cZ _ hne];exact hc) hk
 ·rcases List.mem_cons.1 h with h|h
  ·cases h
   exact t.i3 _ es (fun i' ob'=>hno i' _ ob') (Hp.dW _ _ _) hk
  ·exact t.i4 i' j p es h hk
 ·exact(t.ct j hj).1 x (fun i' ob' h=>hx i' ob' (List.mem_cons_of_mem _ h))
theorem Told.ins{a:Nat}{p:Pos}{x y:V}{es:List (V×V)}(hi:∀c j,(i,c,j)∉phased past.length l)(hlt:p.nat<q.nat)(hbp:base.get p=none)(hcp:cur.get p=some (.map es))(hnew:apX x es=true)
  (t:Told P e ops sb fr k l env' base (cur.put p (some (.map (es++ [(x,y)])))) past pc q out T) (hE:∀t v,dn t env=some v→dn t env'=some v)
  (h1:jU P e ops sb fr {T with I:=(i,past.length,p,x,y)::T.I} i (.ins a) past.length) (hw:Wanted ops T.E i):
  Told P e ops sb fr k ((i,.ins a)::l) env base cur past pc q out {T with I:=(i,past.length,p,x,y)::T.I}:=by
 have hno:∀i' j ob',(i',j,p,ob')∉T.A:=fun i' j ob' h=>by
  have:=(t.a1 _ _ _ _ h).1
  omega
 have hent:∀j z,(j≠past.length∨z≠p)→ent ((i,past.length,p,x,y)::T.I) (fun _=>true) j z=ent T.I (fun _=>true) j z:=fun j z hz=>by
  rw [KG,if_neg (fun h=>by rcases hz with hz|hz;exact hz h.1.symm;exact hz h.2.1.symm)];rfl
 have hentp:ent ((i,past.length,p,x,y)::T.I) (fun _=>true) past.length p=(x,y)::ent T.I (fun _=>true) past.length p:=by
  rw [KG,if_pos ⟨rfl,rfl,rfl⟩];rfl
 refine⟨fun z v h=>t.tEnv z v (hE z v h),t.tBase,t.tPast,t.tPc,fun i' c' j' h=>?_,fun i' j p' ob' h=>?_,t.a2,t.a3,fun z hz=>?_,fun i' j p' x' y' h=>?_,?_,fun z fs hz hc hk=>?_,fun i' j p' fs h hk=>?_,t.cn,t.ct,t.out⟩
 ·rcases List.mem_cons.1 h with h|h
  ·cases h;exact h1
  ·exact(t.steps i' c' j' h).aPC
 ·obtain⟨g1,g2,g3,g4,g5⟩:=t.a1 i' j p' ob' h
  refine⟨g1,g2,List.mem_cons_of_mem _ g3,?_,g5⟩
  show(T.Cs j).get p'=some (KN (ent ((i,past.length,p,x,y)::T.I) (fun _=>true) j p') ob')
  rw [hent j p' (.inr fun e=>by rw [e] at g1;omega)];exact g4
 ·show(T.Cs past.length).get z=(cur.get z).map (KN (ent ((i,past.length,p,x,y)::T.I) (fun _=>true) past.length z))
  rw [t.cs z hz]
  by_cases hzp:z=p
  ·subst hzp
   rw [hentp,Hp.dW,hcp]
   simp [KN]
  ·rw [hent _ z (.inr hzp),Hp.cZ _ hzp]
 ·rcases List.mem_cons.1 h with h|h
  ·cases h
   exact⟨.inl ⟨rfl,hbp,es,hcp⟩,⟨a,List.mem_cons_self ..⟩,hw⟩
  ·obtain⟨g1,⟨a',g2⟩,g3⟩:=t.i1 _ _ _ _ _ h
   refine⟨?_,⟨a',List.mem_cons_of_mem _ g2⟩,g3⟩
   rcases g1 with⟨e1,e2,fs,e3⟩|g1
   ·by_cases hpp:p'=p
    ·subst hpp;exact .inl ⟨e1,e2,es,hcp⟩
    ·rw [Hp.cZ _ hpp] at e3;exact .inl ⟨e1,e2,fs,e3⟩
   ·exact .inr g1
 ·show(List.map (·.1) ((i,past.length,p,x,y)::T.I)).Nodup
  rw [List.map_cons,List.nodup_cons]
  refine⟨fun hm=>?_,t.i2⟩
  obtain⟨⟨i',j',p',x',y'⟩,hm,he⟩:=List.mem_map.1 hm
  obtain⟨_,⟨a',g2⟩,_⟩:=t.i1 _ _ _ _ _ hm
  have he:i'=i:=he
  subst he
  exact hi _ _ g2
 ·show ig (fs++ent ((i,past.length,p,x,y)::T.I) (fun _=>true) past.length z)
  by_cases hzp:z=p
  ·subst hzp
   rw [hcp] at hc;cases hc
   rw [hentp]
   have:=t.i3 z (es++ [(x,y)]) hz (Hp.dW _ _ _) (hk.snoc (aAr hnew))
   rw [List.append_assoc] at this
   exact this
  ·rw [hent _ z (.inr hzp)]
   exact t.i3 z fs hz (by rw [Hp.cZ _ hzp];exact hc) hk
 ·show ig (fs++ent ((i,past.length,p,x,y)::T.I) (fun _=>true) j p')
  rw [hent j p' (.inr fun e=>by subst e;exact hno _ _ _ h)]
  exact t.i4 i' j p' fs h hk
theorem Told.heavy{h:Hp}(t:Told P e ops sb fr k l env' h h (base::past) (cur::pc) q out T)(hl:pc.length=past.length)(hE:∀t v,dn t env=some v→dn t env'=some v)
  (h1:jU P e ops sb fr T i .heavy past.length):Told P e ops sb fr k ((i,.heavy)::l) env base cur past pc q out T:=by
 have hC:T.Cs past.length=cur:=by have:=t.tPc 0 cur rfl;simpa using this
 have hno:∀x,ent T.I (fun _=>true) past.length x= []:=fun x=>Zj fun y hy hj _=>by
  obtain⟨i',j',p',x',y'⟩:=y
  obtain⟨_,⟨a,g⟩,_⟩:=t.i1 _ _ _ _ _ hy
  have:=arB g
  have hj:j'=past.length:=hj
  simp at this
  omega
 refine⟨fun x v h=>t.tEnv x v (hE x v h),?_,fun r g hr=>?_,fun r g hr=>?_,fun i' c' j' h=>?_,fun i' j p ob' h=>?_,t.a2,t.a3,fun x _=>?_,fun i' j p x y h=>?_,t.i2,fun x es _ _ hk=>?_,t.i4,by rw [hC],fun j hj=>?_,?_⟩
 ·have:=t.tPast 0 base rfl;simpa using this
 ·have:=t.tPast (r+1) g (by simpa using hr)
  rw [←this];congr 1;simp;omega
 ·have:=t.tPc (r+1) g (by simpa using hr)
  rw [←this];congr 1;simp;omega
 ·rcases List.mem_cons.1 h with h|h
  ·cases h;exact h1
  ·exact t.steps i' c' j' h
 ·obtain⟨g1,g2,g3,g4⟩:=t.a1 i' j p ob' h
  exact⟨g1,g2,List.mem_cons_of_mem _ g3,g4⟩
 ·rw [hC,hno]
  cases cur.get x with
  |none=>rfl
  |some o=>simp [KL]
 ·obtain⟨g1,⟨a,g2⟩,g3⟩:=t.i1 _ _ _ _ _ h
  refine⟨?_,⟨a,List.mem_cons_of_mem _ g2⟩,g3⟩
  rcases g1 with⟨_,e2,fs,e3⟩|g1
  ·rw [e2] at e3;cases e3
  ·exact .inr g1
 ·rw [hno,List.append_nil];exact hk
 ·have hl':(base::past).length=past.length+1:=rfl
  by_cases e:j=past.length+1
  ·subst e
   have hB:T.Bs (past.length+1)=h:=t.tBase
   rw [hB]
   refine⟨fun x hx=>?_,t.cn⟩
   have:=t.cs x hx
   rw [show(base::past).length=past.length+1 from rfl] at this
   rw [this,Zj fun y hy hj hyp=>?_]
   ·cases h.get x with
    |none=>rfl
    |some o=>simp [KL]
   ·exfalso
    obtain⟨i',j',p',x',y'⟩:=y
    have hj:j'=past.length+1:=hj
    have hyp:p'=x:=hyp
    subst hj;subst hyp
    obtain⟨g1,_,_⟩:=t.i1 _ _ _ _ _ hy
    rcases g1 with⟨_,e2,fs,e3⟩|⟨a,ob,g1⟩
    ·rw [e2] at e3;cases e3
    ·exact hx a ob g1
  ·exact t.ct j (by omega)
 ·have:=t.out
  have e:(base::past).length+bQ l=past.length+bQ ((i,.heavy)::l):=by simp [bQ];omega
  rw [e] at this
  exact this
theorem anq{m:Hp→R V}{h:Hp}{k:V→Hp→Out}{out:Out}(hb:out≠ .bad)(h0:bnd m h k=out):∃v h',m h=.ok v h'∧k v h'=out:=by
 unfold bnd at h0
 split at h0
 ·exact⟨_,_,by assumption,h0⟩
 ·exact absurd h0.symm hb
theorem xE{i:Nat}{c:Cls}{j:Nat}:∀{j₀:Nat} {l:Plan},(i,c,j)∈phased j₀ l→i∈l.map (·.1)
 |j₀,(i',c')::l,h=>by
  rcases List.mem_cons.1 h with h|h
  ·cases h;simp
  ·have:=xE h;simp at this⊢;exact .inr this
theorem uZ(hb:out≠ .bad):∀(l:Plan) (env:Env) (base cur:Hp) (past pc:List Hp) (q:Pos),(l.map (·.1)).Nodup→pc.length=past.length→xO P e ops sb fr k l env base cur past q=out→
  ∃T,Told P e ops sb fr k l env base cur past pc q out T
 | [],env,base,cur,past,pc,q,_,hl,h=>by
  let T:Tr:=⟨env,fun j=>if j<past.length then past.getD (past.length - 1 - j) base else base,
   fun j=>if j<past.length then pc.getD (past.length - 1 - j) base else if j=past.length then cur else base,[],[]⟩
  have hC:T.Cs past.length=cur:=by simp [T]
  refine⟨T,?_⟩
  constructor
  ·exact fun _ _ h=>h
  ·simp [T]
  ·intro r g hr
   have hlt:r<past.length:=by
    rcases Nat.lt_or_ge r past.length with h1|h1
    ·exact h1
    ·rw [List.getElem?_eq_none h1] at hr;cases hr
   have e1:past.length - 1 - r<past.length:=by omega
   have e2:past.length - 1 - (past.length - 1 - r)=r:=by omega
   simp only [T,e1,if_true,e2]
   rw [List.getD_eq_getElem?_getD,hr];rfl
  ·intro r g hr
   have hlt:r<pc.length:=by
    rcases Nat.lt_or_ge r pc.length with h1|h1
    ·exact h1
    ·rw [List.getElem?_eq_none h1] at hr;cases hr
   have e1:past.length - 1 - r<past.length:=by omega
   have e2:past.length - 1 - (past.length - 1 - r)=r:=by omega
   simp only [T,e1,if_true,e2]
   rw [List.getD_eq_getElem?_getD,hr];rfl
  ·intro i c j h;cases h
  ·intro i j p ob h;cases h
  ·intro a a' h;cases h
  ·intro a a' h;cases h
  ·intro x _
   rw [hC]
   show _=(cur.get x).map (KN [])
   cases cur.get x with
   |none=>rfl
   |some o=>simp [KL]
  ·intro i j p x y h;cases h
  ·exact List.nodup_nil
  ·intro x es _ _ hk
   show ig (es++ [])
   rw [List.append_nil];exact hk
  ·intro i j p es h;cases h
  ·rw [hC]
  ·intro j hj
   have e1:¬j<past.length:=by omega
   have e2:¬j=past.length:=by omega
   simp [T,e1,e2]
  ·show k env (T.Cs (past.length+0))=out
   rw [Nat.add_zero,hC];exact h
 |(i,c)::l,env,base,cur,past,pc,q,hnd,hl,h=>by
  have hnd':(l.map (·.1)).Nodup:=(List.nodup_cons.1 (by simpa using hnd)).2
  have hni:i∉l.map (·.1):=(List.nodup_cons.1 (by simpa using hnd)).1
  unfold xO at h
  split at h
  ·exact absurd h.symm hb
  rename_i o ho
  have run:∀(hg:∀T:Tr,(∀t v,dn t env=some v→dn t T.E=some v)→o.guard=none∨∃g b d,o.guard=some (g,b)∧(ops[g]?).bind (·.dst)=some d∧dn d T.E=some (.bool b)),
    (zO ops sb fr i env o.op.operands.toList fun vs=>sJ P e o c vs base cur past q fun v base cur past q=>vJ o.dst v env fun env=>xO P e ops sb fr k l env base cur past q)=out→
    ∃T,Told P e ops sb fr k ((i,c)::l) env base cur past pc q out T:=by
   intro hg h
   obtain⟨vs,h,hsrc⟩:=auS hb h
   cases c with
   |pure=>
    simp only [sJ] at h
    split at h
    ·rename_i hp
     obtain⟨v,h',hop,h⟩:=anq hb h
     obtain⟨env',h,hE,hd⟩:=Gu hb h
     obtain⟨T,t⟩:=uZ hb l env' base cur past pc q hnd' hl h
     exact⟨T,t.stay hE (by simp) ⟨o,ho,.inl ⟨hg T fun x u hx=>t.tEnv x u (hE x u hx),vs,v,hsrc.mono (fun x u hx=>t.tEnv x u (hE x u hx)),fun d hd'=>t.tEnv d v (hd d hd'),hp,_,_,hop⟩⟩⟩
    ·exact absurd h.symm hb
   |read cnt=>
    simp only [sJ] at h
    split at h
    ·rename_i hp
     obtain⟨v,h',hop,h⟩:=anq hb h
     obtain⟨h,hck⟩:=aFs hb h
     obtain⟨env',h,hE,hd⟩:=Gu hb h
     obtain⟨T,t⟩:=uZ hb l env' base cur past pc q hnd' hl h
     refine⟨T,t.stay hE (by simp) ⟨o,ho,.inl ⟨hg T fun x u hx=>t.tEnv x u (hE x u hx),vs,v,hsrc.mono (fun x u hx=>t.tEnv x u (hE x u hx)),fun d hd'=>t.tEnv d v (hd d hd'),hp,fun j' hj1 hj2=>?_⟩⟩⟩
     by_cases ej:j'=past.length
     ·subst ej;rw [t.tBase];exact⟨_,hop⟩
     ·have hr:past.length - 1 - j'<past.length:=by omega
      have hg':=List.getElem?_eq_getElem hr
      have:=t.tPast _ _ hg'
      rw [show past.length - 1 - (past.length - 1 - j')=j' by omega] at this
      rw [this]
      exact hck _ _ (by omega) hg'
    ·exact absurd h.symm hb
   |alloc=>
    simp only [sJ] at h
    split at h
    ·rename_i ob mk hal
     obtain⟨env',h,hE,hd⟩:=Gu hb h
     obtain⟨T,t⟩:=uZ hb l env' base (cur.put q (some ob)) past pc q.succ hnd' hl h
     exact⟨_,t.alloc (fun c j hm=>hni (xE hm)) hE ⟨o,ho,.inl ⟨hg _ fun x u hx=>t.tEnv x u (hE x u hx),vs,mk q,hsrc.mono (fun x u hx=>t.tEnv x u (hE x u hx)),fun d hd'=>t.tEnv d _ (hd d hd'),ob,mk,q,hal,rfl,by simp⟩⟩ ⟨o,ho,hg T fun x u hx=>t.tEnv x u (hE x u hx)⟩⟩
    ·exact absurd h.symm hb
   |heavy=>
    simp only [sJ] at h
    obtain⟨v,h',hop,h⟩:=anq hb h
    obtain⟨env',h,hE,hd⟩:=Gu hb h
    obtain⟨T,t⟩:=uZ hb l env' h' h' (base::past) (cur::pc) q hnd' (by simp [hl]) h
    have hC:T.Cs past.length=cur:=by have:=t.tPc 0 cur rfl;simpa using this
    refine⟨T,t.heavy hl hE ⟨o,ho,.inl ⟨hg T fun x u hx=>t.tEnv x u (hE x u hx),vs,v,hsrc.mono (fun x u hx=>t.tEnv x u (hE x u hx)),fun d hd'=>t.tEnv d v (hd d hd'),?_⟩⟩⟩
    show iQ P e o.op vs (T.Cs past.length)=.ok v (T.Bs (past.length+1))
    rw [hC,show T.Bs (past.length+1)=h' from t.tBase]
    exact hop
   |own a=>
    simp only [sJ] at h
    rcases vs with _|⟨u,_|⟨_,_⟩⟩
    ·exact absurd h.symm hb
    ·simp only [] at h
     split at h
     ·rename_i hown
      unfold aHD at h
      split at h
      ·rename_i p hu
       split at h
       ·rename_i hlt
        have hlt':p.nat<q.nat:=by simpa [Nat.blt_eq] using hlt
        obtain⟨v,h',hop,h⟩:=anq hb h
        obtain⟨env',h,hE,hd⟩:=Gu hb h
        obtain⟨T,t⟩:=uZ hb l env' base cur past pc q hnd' hl h
        have hcs:(T.Cs past.length).get p=cur.get p:=by
         have hcs:=t.cs p fun i' ob hA=>by have:=(t.a1 _ _ _ _ hA).1;omega
         obtain⟨cs,hrow⟩:=aAd hown hu hop
         rw [hcs]
         cases hcp:cur.get p with
         |none=>rfl
         |some o=>
          rw [hcp] at hrow
          cases o<;>first|rfl|cases hrow
        exact⟨T,t.stay hE (by simp) ⟨o,ho,.inl ⟨hg T fun x u hx=>t.tEnv x u (hE x u hx),[u],v,hsrc.mono (fun x u hx=>t.tEnv x u (hE x u hx)),fun d hd'=>t.tEnv d v (hd d hd'),u,p,_,rfl,hown,hu,auM hown hu hcs hop⟩⟩⟩
       ·exact absurd h.symm hb
      ·exact absurd h.symm hb
     ·exact absurd h.symm hb
    ·exact absurd h.symm hb
   |ins a=>
    simp only [sJ] at h
    obtain⟨p,x,y,es,rfl,hio,hlt,hbp,hcp,hnew,h⟩:=aAz hb h
    obtain⟨env',h,hE,hd⟩:=Gu hb h
    obtain⟨T,t⟩:=uZ hb l env' base (cur.put p (some (.map (es++ [(x,y)])))) past pc q hnd' hl h
    exact⟨_,t.ins (fun c j hm=>hni (xE hm)) hlt hbp hcp hnew hE ⟨o,ho,.inl ⟨hg _ fun x u hx=>t.tEnv x u (hE x u hx),_,V.undef,hsrc.mono (fun x u hx=>t.tEnv x u (hE x u hx)),fun d hd'=>t.tEnv d _ (hd d hd'),p,x,y,rfl,hio,rfl,by simp⟩⟩ ⟨o,ho,hg T fun x u hx=>t.tEnv x u (hE x u hx)⟩⟩
  split at h
  ·rename_i hgn
   exact run (fun T _=>.inl hgn) h
  ·rename_i g b hgs
   split at h
   ·exact absurd h.symm hb
   ·rename_i d hd
    split at h
    ·exact absurd h.symm hb
    ·rename_i v hv
     have skip:(∀T:Tr,(∀t v,dn t env=some v→dn t T.E=some v)→∃g b d,o.guard=some (g,b)∧(ops[g]?).bind (·.dst)=some d∧(dn d T.E=some (.bool (!b))∨∃l,dn d T.E=some (.tuple l)))→
       (Nu c base cur past q fun base cur past q=>vJ o.dst V.undef env fun env=>xO P e ops sb fr k l env base cur past q)=out→
       ∃T,Told P e ops sb fr k ((i,c)::l) env base cur past pc q out T:=by
      intro hg h
      have light:c≠ .heavy→(vJ o.dst V.undef env fun env=>xO P e ops sb fr k l env base cur past q)=out→∃T,Told P e ops sb fr k ((i,c)::l) env base cur past pc q out T:=by
       intro hc h
       obtain⟨env',h,hE,hdd⟩:=Gu hb h
       obtain⟨T,t⟩:=uZ hb l env' base cur past pc q hnd' hl h
       exact⟨T,t.stay hE hc ⟨o,ho,.inr ⟨hg T fun x u hx=>t.tEnv x u (hE x u hx),fun d hd'=>t.tEnv d _ (hdd d hd'),fun e=>absurd e hc⟩⟩⟩
      cases c with
      |pure=>exact light (by simp) h
      |read cnt=>exact light (by simp) h
      |alloc=>exact light (by simp) h
      |own a=>exact light (by simp) h
      |ins a=>exact light (by simp) h
      |heavy=>
       simp only [Nu] at h
       obtain⟨env',h,hE,hdd⟩:=Gu hb h
       obtain⟨T,t⟩:=uZ hb l env' cur cur (base::past) (cur::pc) q hnd' (by simp [hl]) h
       have hC:T.Cs past.length=cur:=by have:=t.tPc 0 cur rfl;simpa using this
       exact⟨T,t.heavy hl hE ⟨o,ho,.inr ⟨hg T fun x u hx=>t.tEnv x u (hE x u hx),fun d hd'=>t.tEnv d _ (hdd d hd'),fun _=>by rw [hC];exact t.tBase⟩⟩⟩
     unfold aH4 at h
     split at h
     ·rename_i c'
      have key:∀T:Tr,(∀t v,dn t env=some v→dn t T.E=some v)→dn d T.E=some (.bool c'):=fun T hT=>hT d _ hv
      split at h
      ·exact run (fun T hT=>.inr ⟨g,_,d,hgs,hd,key T hT⟩) h
      ·exact run (fun T hT=>.inr ⟨g,_,d,hgs,hd,key T hT⟩) h
      ·rename_i hn1 hn2
       have hcb:c'=!b:=by
        cases c'<;>cases b<;>first|rfl|exact absurd rfl (hn1 rfl)|exact absurd rfl (hn2 rfl)
       subst hcb
       exact skip (fun T hT=>⟨g,b,d,hgs,hd,.inl (key T hT)⟩) h
     ·rename_i ll
      exact skip (fun T hT=>⟨g,b,d,hgs,hd,.inr ⟨ll,hT d _ hv⟩⟩) h
     ·exact absurd h.symm hb
end
end Go.Vm

namespace Go.Vm
noncomputable section
variable{e:FuncId→Option Fun}{Ed:Nat→Nat→Prop}{ops:Array Oper}{sb:Nat→Nat→Bool}{fr:F}{keep:Nat→Bool}{G N:Nat}{Df:List Deferred}
def Edge(ops:Array Oper)(j i:Nat):Prop:=∃o e,ops[i]?=some o∧e∈o.after∧Region.binds .any e=true∧e.on=j
inductive Bef (Ed:Nat→Nat→Prop):Nat→Nat→Prop where
 |one {j i:Nat}:Ed j i→Bef Ed j i
 |step {k j i:Nat}:Bef Ed k j→Ed j i→Bef Ed k i
def Down(Ed:Nat→Nat→Prop)(L:Array Bool):Prop:=∀i j,Ed j i→L.getD i false=true→L.getD j false=true
theorem Down.bef{L:Array Bool}(hd:Down Ed L){j i:Nat}(h:Bef Ed j i):L.getD i false=true→L.getD j false=true:=by
 induction h with
 |one h=>exact hd _ _ h
 |step _ h ih=>exact fun hi=>ih (hd _ _ h hi)
structure Ready (ops:Array Oper) (Ed:Nat→Nat→Prop) (L:Array Bool) (i:Nat):Prop where
 lt:i<ops.size
 no:L.getD i false=false
 edge:∀j,Ed j i→L.getD j false=true
theorem aaM{L:Array Bool}(hs:L.size=ops.size){i:Nat}(h:i∈Region.ready .any ops L):Ready ops (Edge ops) L i:=by
 simp only [Region.ready,List.mem_filter,List.mem_range,Bool.and_eq_true,Bool.not_eq_true'] at h
 obtain⟨h1,h2,h3⟩:=h
 have hi:i<L.size:=by omega
 refine⟨h1,?_,?_⟩
 ·simp [Array.getD,hi] at h2⊢;exact h2
 ·rintro j ⟨o,e,ho,he,hb,rfl⟩
  rw [ho] at h3
  simp only [Option.map_some,Option.getD_some,Array.all_eq_true'] at h3
  have:=h3 e he
  simpa [hb] using this
theorem auw{L:Array Bool}(hs:L.size=ops.size){i:Nat}(hi:i<ops.size)(hno:L.getD i false=false)(he:∀j,Edge ops j i→L.getD j false=true):i∈Region.ready .any ops L:=by
 simp only [Region.ready,List.mem_filter,List.mem_range,Bool.and_eq_true,Bool.not_eq_true']
 have hi':i<L.size:=by omega
 refine⟨hi,by simp [Array.getD,hi'] at hno⊢;exact hno,?_⟩
 rw [Array.getElem?_eq_getElem hi]
 simp only [Option.map_some,Option.getD_some,Array.all_eq_true']
 intro x hx
 by_cases hb:Region.binds .any x=true
 ·rw [he x.on ⟨_,x,Array.getElem?_eq_getElem hi,hx,hb,rfl⟩];simp
 ·simp [hb]
theorem Ready.bef{L:Array Bool}{i:Nat}(h:Ready ops Ed L i)(hd:Down Ed L){j:Nat}(hj:Bef Ed j i):L.getD j false=true:=by
 cases hj with
 |one he=>exact h.edge _ he
 |step hb he=>exact hd.bef hb (h.edge _ he)
theorem Ready.TR{L:Array Bool}{i:Nat}(h:Ready ops Ed L i)(hd:Down Ed L){j:Nat}(hj:Bef Ed i j):L.getD j false=false:=by
 cases hl:L.getD j false with
 |false=>rfl
 |true=>have:=hd.bef hj hl;rw [h.no] at this;cases this
structure Static (ops:Array Oper) (Ed:Nat→Nat→Prop) (sb:Nat→Nat→Bool) (G N:Nat) (plan:Plan):Prop where
 cover:∀i,i<ops.size→∃c j,(i,c,j)∈phased 0 plan
 nodup:(plan.map (·.1)).Nodup
 heavyAt:∀j,j<bQ plan→∃i,(i,.heavy,j)∈phased 0 plan∧i<ops.size
 chain:∀i j i' j',(i,.heavy,j)∈phased 0 plan→(i',.heavy,j')∈phased 0 plan→j<j'→Bef Ed i i'
 same:∀i i' j,(i,.heavy,j)∈phased 0 plan→(i',.heavy,j)∈phased 0 plan→i=i'
 alloc:∀i j i' j',(i,.alloc,j)∈phased 0 plan→(i',.heavy,j')∈phased 0 plan→j≤j'→Bef Ed i i'
 readU:∀i n j i' j',(i,.read n,j)∈phased 0 plan→(i',.heavy,j')∈phased 0 plan→j≤j'→Bef Ed i i'
 ahy:∀i n j i' j',(i,.read n,j)∈phased 0 plan→(i',.heavy,j')∈phased 0 plan→j'+n<j→Bef Ed i' i
 ownU:∀i a j i' j',(i,.own a,j)∈phased 0 plan→(i',.heavy,j')∈phased 0 plan→j≤j'→Bef Ed i i'
 ownA:∀i a j,(i,.own a,j)∈phased 0 plan→(a,.alloc,j)∈phased 0 plan∧Bef Ed a i∧∃oa o t,ops[a]?=some oa∧oa.dst=some t∧ops[i]?=some o∧o.op.operands.toList= [.tmp t]∧HY ops sb i t=true
 insU:∀i a j i' j',(i,.ins a,j)∈phased 0 plan→(i',.heavy,j')∈phased 0 plan→j≤j'→Bef Ed i i'
 insA:∀i a j,(i,.ins a,j)∈phased 0 plan→(a,.alloc,j)∈phased 0 plan∧Bef Ed a i∧∃oa o t rest,ops[a]?=some oa∧oa.dst=some t∧ops[i]?=some o∧o.op.operands.toList=.tmp t::rest∧HY ops sb i t=true
 guard:∀i o g b,ops[i]?=some o→o.guard=some (g,b)→Bef Ed g i
 dsts:∀(i i':Nat) (o o':Oper) (t:Nat),ops[i]?=some o→ops[i']?=some o'→o.dst=some t→o'.dst=some t→i=i'
 srcT:∀i t,i<ops.size→HY ops sb i t=true→∃i' o',ops[i']?=some o'∧o'.dst=some t∧Bef Ed i' i
 srcF:∀i o t,ops[i]?=some o→ .tmp t∈o.op.operands.toList→HY ops sb i t=false→∀i' o',ops[i']?=some o'→o'.dst=some t→i=i'∨Bef Ed i i'
 oper:∀o∈ops.toList,oH G N o=true
theorem jP{i:Nat}{c c':Cls}{j j':Nat}:∀{j₀:Nat} {l:Plan},(l.map (·.1)).Nodup→(i,c,j)∈phased j₀ l→(i,c',j')∈phased j₀ l→c=c'∧j=j'
 |j₀,(i',c₀)::l,hn,h,h'=>by
  have hn':=(List.nodup_cons.1 (by simpa using hn:(i'::l.map (·.1)).Nodup))
  rcases List.mem_cons.1 h with h1|h1<;>rcases List.mem_cons.1 h' with h2|h2
  ·cases h1;cases h2;exact⟨rfl,rfl⟩
  ·cases h1;exact absurd (xE (l:=l) h2) hn'.1
  ·cases h2;exact absurd (xE (l:=l) h1) hn'.1
  ·exact jP hn'.2 h1 h2
theorem tK{i:Nat}{c:Cls}{j:Nat}:∀{j₀:Nat} {l:Plan},(i,c,j)∈phased j₀ l→j≤j₀+bQ l∧(c=.heavy→j<j₀+bQ l)
 |j₀,(i',c₀)::l,h=>by
  rcases List.mem_cons.1 h with h|h
  ·cases h
   cases c<;>simp [bQ]
  ·have:=tK h
   cases c₀<;>simp only [bQ] at this⊢<;>(refine⟨by omega,fun hc=>?_⟩;have:=this.2 hc;omega)
structure Inv (T:Tr) (ops:Array Oper) (Ed:Nat→Nat→Prop) (plan:Plan) (keep:Nat→Bool) (fr:F) (G N:Nat) (Df:List Deferred) (M₀:Mp) (h₀:Hp) (w₀:World) (L:Array Bool) (M:Mp) (f:Hp) (j:Nat) (a:Act) (w:World):Prop where
 lsize:L.size=ops.size
 down:Down Ed L
 jle:j≤bQ plan
 ph:∀i j',(i,.heavy,j')∈phased 0 plan→(L.getD i false=true↔j'<j)
 rel:Rel G M f w
 nx:f.next=(T.Bs j).next
 f1:∀i j' p ob,(i,j',p,ob)∈T.A→L.getD i false=true→j≤j'→f.get p=some (KN (ent T.I (fun i=>L.getD i false) j' p) ob)
 f2:∀x,(∀i j' ob,(i,j',x,ob)∈T.A→L.getD i false=true→¬j≤j')→f.get x=(T.Bs j).get x
 f3:∀i j' p ob,(i,j',p,ob)∈T.A→j≤j'→(T.Bs j).get p=none∧p.nat<(T.Bs j).next.nat
 un:∀i j' p ob,(i,j',p,ob)∈T.A→L.getD i false=false→M p=none
 e1:∀i o d v,L.getD i false=true→ops[i]?=some o→o.dst=some d→dn d T.E=some v→Rp M v (a.tmps.getD d undef)
 e2:∀t v,(∀i o,L.getD i false=true→ops[i]?=some o→o.dst≠some t)→fr.get (Pos.of t)=some v→keep t=true∧Rp M v (a.tmps.getD t undef)
 size:a.tmps.size=N
 plain:a.defers=Df
 ext:Ext M₀ h₀ w₀ M f w
theorem fH(L:Array Bool){i:Nat}(hi:i<L.size)(k:Nat):(L.setIfInBounds i true).getD k false=if k=i then true else L.getD k false:=by
 rw [Array.getD_eq_getD_getElem?,Array.getD_eq_getD_getElem?]
 by_cases e:k=i
 ·subst e;rw [if_pos rfl,Array.getElem?_setIfInBounds_self_of_lt hi];rfl
 ·rw [if_neg e,Array.getElem?_setIfInBounds_ne (Ne.symm e)]
section step
variable{T:Tr}{plan:Plan}{M₀ M:Mp}{h₀ f:Hp}{w₀ w:World}{L:Array Bool}{j:Nat}{a:Act}{i:Nat}
theorem Inv.aIl(I:Inv T ops Ed plan keep fr G N Df M₀ h₀ w₀ L M f j a w)(S:Static ops Ed sb G N plan)(R:Ready ops Ed L i){j':Nat}(hp:(i,.heavy,j')∈phased 0 plan):j'=j:=by
 have h1:¬j'<j:=fun h=>by have:=(I.ph i j' hp).2 h;rw [R.no] at this;cases this
 rcases Nat.lt_or_ge j j' with h2|h2
 ·have hlt:j<bQ plan:=by have:=(tK hp).2 rfl;omega
  obtain⟨i2,hp2,_⟩:=S.heavyAt j hlt
  have:=R.bef I.down (S.chain i2 j i j' hp2 hp h2)
  have:=(I.ph i2 j hp2).1 this
  omega
 ·omega
theorem Inv.aIo(I:Inv T ops Ed plan keep fr G N Df M₀ h₀ w₀ L M f j a w)(S:Static ops Ed sb G N plan)(R:Ready ops Ed L i){j':Nat}(hp:(i,.alloc,j')∈phased 0 plan):j≤j':=by
 rcases Nat.lt_or_ge j' j with h|h
 ·have hlt:j'<bQ plan:=by have:=I.jle;omega
  obtain⟨i2,hp2,_⟩:=S.heavyAt j' hlt
  have h1:=(I.ph i2 j' hp2).2 h
  have:=R.TR I.down (S.alloc i j' i2 j' hp hp2 (Nat.le_refl _))
  rw [h1] at this;cases this
 ·exact h
theorem Inv.aJL(I:Inv T ops Ed plan keep fr G N Df M₀ h₀ w₀ L M f j a w)(S:Static ops Ed sb G N plan)(R:Ready ops Ed L i){n j':Nat}(hp:(i,.read n,j')∈phased 0 plan):j≤j'∧j'≤j+n:=by
 constructor
 ·rcases Nat.lt_or_ge j' j with h|h
  ·have hlt:j'<bQ plan:=by have:=I.jle;omega
   obtain⟨i2,hp2,_⟩:=S.heavyAt j' hlt
   have h1:=(I.ph i2 j' hp2).2 h
   have:=R.TR I.down (S.readU i n j' i2 j' hp hp2 (Nat.le_refl _))
   rw [h1] at this;cases this
  ·exact h
 ·rcases Nat.lt_or_ge (j+n) j' with h|h
  ·have hlt:j<bQ plan:=by have:=(tK hp).1;omega
   obtain⟨i2,hp2,_⟩:=S.heavyAt j hlt
   have:=R.bef I.down (S.ahy i n j' i2 j hp hp2 h)
   have:=(I.ph i2 j hp2).1 this
   omega
  ·exact h
theorem Inv.aNA(I:Inv T ops Ed plan keep fr G N Df M₀ h₀ w₀ L M f j a w)(S:Static ops Ed sb G N plan)(R:Ready ops Ed L i){x j':Nat}(hp:(i,.own x,j')∈phased 0 plan):j≤j':=by
 rcases Nat.lt_or_ge j' j with h|h
 ·have hlt:j'<bQ plan:=by have:=I.jle;omega
  obtain⟨i2,hp2,_⟩:=S.heavyAt j' hlt
  have h1:=(I.ph i2 j' hp2).2 h
  have:=R.TR I.down (S.ownU i x j' i2 j' hp hp2 (Nat.le_refl _))
  rw [h1] at this;cases this
 ·exact h
theorem Inv.aE6(I:Inv T ops Ed plan keep fr G N Df M₀ h₀ w₀ L M f j a w)(S:Static ops Ed sb G N plan)(R:Ready ops Ed L i){x j':Nat}(hp:(i,.ins x,j')∈phased 0 plan):j≤j':=by
 rcases Nat.lt_or_ge j' j with h|h
 ·have hlt:j'<bQ plan:=by have:=I.jle;omega
  obtain⟨i2,hp2,_⟩:=S.heavyAt j' hlt
  have h1:=(I.ph i2 j' hp2).2 h
  have:=R.TR I.down (S.insU i x j' i2 j' hp hp2 (Nat.le_refl _))
  rw [h1] at this;cases this
 ·exact h
theorem Inv.operand(I:Inv T ops Ed plan keep fr G N Df M₀ h₀ w₀ L M f j a w)(S:Static ops Ed sb G N plan)(R:Ready ops Ed L i){o:Oper}(ho:ops[i]?=some o){x:Operand}(hx:x∈o.op.operands.toList){v:V}(hs:Src ops sb fr T.E i x v):Rp M v (a.eval x):=by
 cases x with
 |tmp t=>
  rcases hs with⟨hb,hv⟩|⟨hb,hv⟩
  ·obtain⟨i',o',ho',hd,hbf⟩:=S.srcT i t R.lt hb
   exact I.e1 i' o' t v (R.bef I.down hbf) ho' hd hv
  ·refine(I.e2 t v (fun i' o' hl ho' hd=>?_) hv).2
   rcases S.srcF i o t ho hx hb i' o' ho' hd with rfl|hbf
   ·rw [R.no] at hl;cases hl
   ·have:=R.TR I.down hbf;rw [hl] at this;cases this
 |const c=>exact UL hs M
 |global g=>
  cases hs
  have hg:g<G:=aix (S.oper o (by have:=Array.mem_of_getElem? ho;simpa using this)) _ hx g rfl
  obtain⟨n,hM⟩:=I.rel.gl g hg
  exact yF hM 0
 |func f=>cases hs;exact⟨rfl,.func _,[],[],rfl,⟨rfl,rfl⟩,rfl,rfl,rfl⟩
theorem Inv.operands(I:Inv T ops Ed plan keep fr G N Df M₀ h₀ w₀ L M f j a w)(S:Static ops Ed sb G N plan)(R:Ready ops Ed L i){o:Oper}(ho:ops[i]?=some o):∀{l:List Operand} {vs:List V},(∀x∈l,x∈o.op.operands.toList)→U6 ops sb fr T.E i l vs→bZ M vs (l.map a.eval)
 | [],vs,_,h=>by cases h;rfl
 |x::l,_,hl,⟨v,us,e,h1,h2⟩=>by
  subst e
  exact⟨_,_,I.operand S R ho (hl x (by simp)) h1,I.operands S R ho (fun y hy=>hl y (by simp [hy])) h2,rfl⟩
theorem Inv.aDp(I:Inv T ops Ed plan keep fr G N Df M₀ h₀ w₀ L M f j a w)(S:Static ops Ed sb G N plan)(R:Ready ops Ed L i){o:Oper}(ho:ops[i]?=some o){M':Mp}(hle:M.le M'){v:V}{c:Value}(hv:Rp M' v c)(hd:∀d,o.dst=some d→dn d T.E=some v):
  (∀i' o' d v',(L.setIfInBounds i true).getD i' false=true→ops[i']?=some o'→o'.dst=some d→dn d T.E=some v'→Rp M' v' ((a.put o.dst c).tmps.getD d undef))∧
  (∀t v',(∀i' o',(L.setIfInBounds i true).getD i' false=true→ops[i']?=some o'→o'.dst≠some t)→fr.get (Pos.of t)=some v'→keep t=true∧Rp M' v' ((a.put o.dst c).tmps.getD t undef))∧
  (a.put o.dst c).tmps.size=N∧(a.put o.dst c).defers=Df:=by
 have hiL:i<L.size:=by rw [I.lsize];exact R.lt
 have hok:=S.oper o (by have:=Array.mem_of_getElem? ho;simpa using this)
 have hdl:∀d,o.dst=some d→d<a.tmps.size:=fun d hd=>by rw [I.size];exact H6 hok d hd
 refine⟨fun i' o' d v' hl ho' hd' hv'=>?_,fun t v' hno hv'=>?_,?_,?_⟩
 ·rw [fH L hiL] at hl
  by_cases e:i'=i
  ·subst e
   rw [ho] at ho';cases ho'
   rw [hd',KF (hdl d hd'),if_pos rfl]
   have:=hd d hd'
   rw [hv'] at this;cases this
   exact hv
  ·rw [if_neg e] at hl
   have old:=(I.e1 i' o' d v' hl ho' hd' hv').mono hle
   cases hod:o.dst with
   |none=>exact old
   |some d₀=>
    have hne:d≠d₀:=fun e'=>by subst e';exact e (S.dsts i' i o' o d ho' ho hd' hod)
    rw [KF (hdl d₀ hod),if_neg hne]
    exact old
 ·have h1:=I.e2 t v' (fun i' o' hl ho'=>hno i' o' (by rw [fH L hiL];split<;>first|rfl|exact hl) ho') hv'
  refine⟨h1.1,?_⟩
  have old:=h1.2.mono hle
  cases hod:o.dst with
  |none=>exact old
  |some d₀=>
   have hne:t≠d₀:=fun e'=>by subst e';exact hno i o (by rw [fH L hiL,if_pos rfl]) ho hod
   rw [KF (hdl d₀ hod),if_neg hne]
   exact old
 ·cases o.dst<;>simp [Act.put,I.size]
 ·cases o.dst<;>exact I.plain
theorem Inv.lists(I:Inv T ops Ed plan keep fr G N Df M₀ h₀ w₀ L M f j a w)(R:Ready ops Ed L i):(L.setIfInBounds i true).size=ops.size∧Down Ed (L.setIfInBounds i true):=by
 have hiL:i<L.size:=by rw [I.lsize];exact R.lt
 refine⟨by simp [I.lsize],fun k l hkl hk=>?_⟩
 rw [fH L hiL] at hk⊢
 split
 ·rfl
 ·split at hk
  ·rename_i e;subst e;exact R.edge l hkl
  ·exact I.down k l hkl hk
end step
end
end Go.Vm
