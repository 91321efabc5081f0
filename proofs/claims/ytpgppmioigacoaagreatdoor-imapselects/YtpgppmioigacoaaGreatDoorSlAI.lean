/- Part of the value machine, or of a walk by it: lemmas that the claim's last text uses. No conditions. -/
import Derived.Test.YtpgppmioigacoaaGreatDoorSlAH
import Derived.Laws.Externs
import Derived.Laws.LoneSync
import Derived.Lib.Bytealg
import Derived.Lib.MakeNoZero
import Derived.Lib.LaidCaseMet
import Derived.Defers
set_option linter.unusedVariables false
set_option linter.unusedSimpArgs false
set_option linter.unnecessarySimpa false
namespace Go.Vm
noncomputable section
variable{P:Program}{e:FuncId→Option Fun}{Ed Ed':Nat→Nat→Prop}{ops:Array Oper}{sb:Nat→Nat→Bool}{fr:F}{keep:Nat→Bool}{G N:Nat}{Df:List Deferred}
variable{T:Tr}{plan pre:Plan}{M₀ M:Mp}{h h₀ f:Hp}{w₀ w:World}{L:Array Bool}{j:Nat}{a:Act}{i x y:Nat}{k:Env→Hp→Out}
def EdP(ops:Array Oper)(x y:Nat):Nat→Nat→Prop:=fun j i=>Edge ops j i∨(j=x∧i=y)
def sbP(sb:Nat→Nat→Bool)(x y:Nat)(j i:Nat):Bool:=sb j i||(Nat.beq j x&&Nat.beq i y)
theorem Bef.mono(hE:∀j i,Ed j i→Ed' j i){j i:Nat}(h:Bef Ed j i):Bef Ed' j i:=by
 induction h with
 |one h=>exact .one (hE _ _ h)
 |step _ h ih=>exact .step ih (hE _ _ h)
theorem asZ(l r:Plan):∀j₀,phased j₀ (l++r)=phased j₀ l++phased (j₀+bQ l) r:=by
 induction l with
 |nil=>intro j₀;simp [phased,bQ]
 |cons z l ih=>
  obtain⟨i,c⟩:=z
  intro j₀
  cases c<;>simp [phased,bQ,ih,Nat.add_assoc,Nat.add_comm 1]
theorem ap7(l r:Plan):bQ (l++r)=bQ l+bQ r:=by
 induction l with
 |nil=>simp [bQ]
 |cons z l ih=>
  obtain⟨i,c⟩:=z
  cases c<;>simp [bQ,ih]<;>omega
def pl2(pre:Plan)(x y:Nat):Plan:=pre++ [(x,.heavy),(y,.heavy)]
theorem wz{c:Cls}:(i,c,j)∈phased 0 (pl2 pre x y)↔(i,c,j)∈phased 0 pre∨(i=x∧c=.heavy∧j=bQ pre)∨(i=y∧c=.heavy∧j=bQ pre+1):=by
 unfold pl2
 rw [asZ]
 simp [phased]
theorem avz:bQ (pl2 pre x y)=bQ pre+2:=by unfold pl2;rw [ap7];simp [bQ]
theorem am8{α:Type}{g:Hp}{p:Pos}{wr:Wr}{cs:List V}(hq:(g.get p).bind Ob.row=some (wr,cs))(k:Wr→List V→R α):dQ g p k=k wr cs:=by
 unfold dQ
 cases hg:g.get p with
 |none=>rw [hg] at hq;cases hq
 |some o=>
  rw [hg] at hq
  cases o with
  |cells w l=>cases hq;rfl
  |bytes l=>cases hq;rfl
  |_=>cases hq
theorem arv{sz:Nat}{a z:V}{h h':Hp}{r:V}(e0:aO sz a z h=.ok r h'):∃p o ob,a=.ptr p o∧h'=h.put p (some ob)∧∀g:Hp,g.get p=h.get p→aO sz a z g=.ok r (g.put p (some ob)):=by
 unfold aO at e0
 obtain⟨p,o,rfl,e1⟩:=lU e0
 obtain⟨wr,cs,hg,e2⟩:=gK e1
 split at e2
 ·rename_i t fl hn hb
  split at e2
  ·rename_i cs' hp
   cases e2
   refine⟨p,o,_,rfl,rfl,fun g hgg=>?_⟩
   have hq:(g.get p).bind Ob.row=some (.rw t fl,cs):=by rw [hgg];exact hg
   show dQ g p _=_
   rw [am8 hq]
   simp only [hn,hb,hp]
  ·cases e2
 ·rename_i hn hb
  unfold WV at e2
  split at e2
  ·rename_i b hbg
   split at e2
   ·rename_i cs0
    split at e2
    ·rename_i cs' hp
     cases e2
     refine⟨p,o,_,rfl,rfl,fun g hgg=>?_⟩
     have hq:(g.get p).bind Ob.row=some (.ro,cs):=by rw [hgg];exact hg
     show dQ g p _=_
     rw [am8 hq]
     simp only [hn,hb]
     unfold WV
     rw [hgg,hbg]
     simp only [hp]
    ·cases e2
   ·cases e2
  ·cases e2
 ·cases e2
theorem aCA{s1 s2:Nat}{a1 z1 a2 z2:V}{h h1 c1 h2:Hp}{r1 r2:V}(e1:aO s1 a1 z1 h=.ok r1 h1)(hc:∀p,c1.get p=h1.get p)(hn:c1.next=h1.next)(e2:aO s2 a2 z2 c1=.ok r2 h2)
  {p1 p2:Pos} {o1 o2:Nat} (ha1:a1=.ptr p1 o1) (ha2:a2=.ptr p2 o2) (hne:p1≠p2):
  ∃g1 g2,aO s2 a2 z2 h=.ok r2 g1∧aO s1 a1 z1 g1=.ok r1 g2∧(∀p,g2.get p=h2.get p)∧g2.next=h2.next:=by
 obtain⟨p,o,ob1,ea,rfl,F1⟩:=arv e1
 obtain⟨q,o',ob2,eb,rfl,F2⟩:=arv e2
 rw [ha1] at ea;cases ea
 rw [ha2] at eb;cases eb
 have h3:=F2 h (by rw [hc,Hp.cZ _ (Ne.symm hne)])
 have h4:=F1 (h.put p2 (some ob2)) (by rw [Hp.cZ _ hne])
 refine⟨_,_,h3,h4,fun x=>?_,?_⟩
 ·by_cases e1:x=p1
  ·subst e1
   rw [Hp.dW,Hp.cZ _ hne,hc,Hp.dW]
  ·rw [Hp.cZ _ e1]
   by_cases e2:x=p2
   ·subst e2
    rw [Hp.dW,Hp.dW]
   ·rw [Hp.cZ _ e2,Hp.cZ _ e2,hc,Hp.cZ _ e1]
 ·show h.next=c1.next
  rw [hn];rfl
def vK(T:Tr)(k:Nat)(b1 b2:Hp):Tr:=
 {T with Bs:=fun j=>if j=k+1 then b1 else if j=k+2 then b2 else T.Bs j,Cs:=fun j=>if j=k+1 then b1 else if j=k+2 then b2 else T.Cs j}
theorem Zq{k:Nat}{b1 b2:Hp}(hj:j≤k):(vK T k b1 b2).Bs j=T.Bs j:=by
 show(if j=k+1 then b1 else if j=k+2 then b2 else T.Bs j)=_
 rw [if_neg (by omega),if_neg (by omega)]
theorem afk{k:Nat}{b1 b2:Hp}(hj:j≤k):(vK T k b1 b2).Cs j=T.Cs j:=by
 show(if j=k+1 then b1 else if j=k+2 then b2 else T.Cs j)=_
 rw [if_neg (by omega),if_neg (by omega)]
theorem aA3{k:Nat}{b1 b2:Hp}:(vK T k b1 b2).Bs (k+1)=b1:=by simp [vK]
theorem aA1{k:Nat}{b1 b2:Hp}:(vK T k b1 b2).Cs (k+1)=b1:=by simp [vK]
theorem aA2{k:Nat}{b1 b2:Hp}:(vK T k b1 b2).Bs (k+2)=b2:=by simp [vK]
theorem aA0{k:Nat}{b1 b2:Hp}:(vK T k b1 b2).Cs (k+2)=b2:=by simp [vK]
theorem jU.alt{k:Nat}{b1 b2:Hp}{c:Cls}(hj:j≤k)(hh:c=.heavy→j<k)(s:jU P e ops sb fr T i c j):jU P e ops sb fr (vK T k b1 b2) i c j:=by
 obtain⟨o,ho,hs⟩:=s
 refine⟨o,ho,?_⟩
 rcases hs with⟨hg,vs,v,h1,h2,h3⟩|⟨hg,h1,h2⟩
 ·refine .inl ⟨hg,vs,v,h1,h2,?_⟩
  cases c with
  |pure=>exact h3
  |read cnt=>exact⟨h3.1,fun j' a b=>by rw [Zq (by omega)];exact h3.2 j' a b⟩
  |alloc=>exact h3
  |heavy=>
   have:=hh rfl
   show iQ P e o.op vs _=_
   rw [afk hj,Zq (by omega)]
   exact h3
  |own x=>obtain⟨u,p,h',q1,q2,q3,q4⟩:=h3;exact⟨u,p,h',q1,q2,q3,by rw [afk hj];exact q4⟩
  |ins x=>exact h3
 ·refine .inr ⟨hg,h1,fun hc=>?_⟩
  have:=hh hc
  rw [afk hj,Zq (by omega)]
  exact h2 hc
def aIN(ops:Array Oper)(x:Nat):Prop:=∃o t av zv,ops[x]?=some o∧o.guard=none∧o.dst=none∧o.op=.store t av zv
theorem aBX{o:Oper}{t:TypeId}{av zv:Operand}(ho:ops[x]?=some o)(hg:o.guard=none)(hd:o.dst=none)(hop:o.op=.store t av zv)(s:jU P e ops sb fr T x .heavy j):
  ∃ti u z v,P.info? t=some ti∧U6 ops sb fr T.E x o.op.operands.toList [u,z]∧aO ti.size u z (T.Cs j)=.ok v (T.Bs (j+1)):=by
 obtain⟨o',ho',hs⟩:=s
 rw [ho] at ho';cases ho'
 rcases hs with⟨_,vs,v,h1,_,h3⟩|⟨⟨g,b,d,hg',_⟩,_⟩
 ·have h3:iQ P e o.op vs (T.Cs j)=.ok v (T.Bs (j+1)):=h3
  rw [hop] at h3
  obtain⟨u,z,rfl,e0⟩:=WG h3
  split at e0
  ·rename_i ti hti
   exact⟨ti,u,z,v,hti,h1,e0⟩
  ·cases e0
 ·rw [hg] at hg';cases hg'
theorem aJp{o:Oper}{t:TypeId}{av zv:Operand}{ti:TypeInfo}{u z v:V}(ho:ops[x]?=some o)(hg:o.guard=none)(hd:o.dst=none)(hop:o.op=.store t av zv)(hti:P.info? t=some ti)
  (h1:U6 ops sb fr T.E x o.op.operands.toList [u,z]) (h2:aO ti.size u z (T.Cs j)=.ok v (T.Bs (j+1))):jU P e ops sb fr T x .heavy j:=by
 refine⟨o,ho,.inl ⟨.inl hg,[u,z],v,h1,fun d hx=>(by rw [hd] at hx;cases hx),?_⟩⟩
 show iQ P e o.op [u,z] (T.Cs j)=_
 rw [hop]
 show(match P.info? t with|some ti=>aO ti.size u z (T.Cs j)|none=>.bad)=_
 rw [hti]
 exact h2
section
variable{b1 b2:Hp}
theorem aHO(SA:Static ops (EdP ops x y) sb G N (pl2 pre x y))(SB:Static ops (EdP ops y x) sb G N (pl2 pre y x)){q:Pos}(A:Made T ops (EdP ops x y) (pl2 pre x y) q):
  Made (vK T (bQ pre) b1 b2) ops (EdP ops y x) (pl2 pre y x) q:=by
 have inpre:∀{i c j},(i,c,j)∈phased 0 (pl2 pre x y)→c≠ .heavy→(i,c,j)∈phased 0 pre∧j≤bQ pre:=fun{i c j} hm hc=>by
  rcases wz.1 hm with h|⟨_,h,_⟩|⟨_,h,_⟩
  ·have:=(tK h).1
   exact⟨h,by omega⟩
  ·exact absurd h hc
  ·exact absurd h hc
 refine⟨fun i j p ob hA=>?_,A.a2,A.a3,fun j=>?_,fun i j p u v hI=>?_,A.i2,A.i4⟩
 ·obtain⟨g1,g2,g3,g4⟩:=A.a1 i j p ob hA
  obtain⟨k1,k2⟩:=inpre g2 (by simp)
  exact⟨g1,wz.2 (.inl k1),by rw [afk k2];exact g3,g4⟩
 ·by_cases e1:j=bQ pre+1
  ·subst e1
   rw [aA3,aA1]
   exact⟨fun _ _=>rfl,rfl⟩
  ·by_cases e2:j=bQ pre+2
   ·subst e2
    rw [aA2,aA0]
    exact⟨fun _ _=>rfl,rfl⟩
   ·have hC:(vK T (bQ pre) b1 b2).Cs j=T.Cs j:=by
     show(if j=bQ pre+1 then b1 else if j=bQ pre+2 then b2 else T.Cs j)=_
     rw [if_neg e1,if_neg e2]
    have hB:(vK T (bQ pre) b1 b2).Bs j=T.Bs j:=by
     show(if j=bQ pre+1 then b1 else if j=bQ pre+2 then b2 else T.Bs j)=_
     rw [if_neg e1,if_neg e2]
    rw [hC,hB]
    exact A.ct j
 ·obtain⟨a,g1,g2,_,g4⟩:=A.i1 i j p u v hI
  obtain⟨k1,_⟩:=inpre g1 (by simp)
  have hm:(i,Cls.ins a,j)∈phased 0 (pl2 pre y x):=wz.2 (.inl k1)
  exact⟨a,hm,g2,(SB.insA i a j hm).2.1,g4⟩
theorem Inv.swap(I:Inv T ops (EdP ops x y) (pl2 pre x y) keep fr G N Df M₀ h₀ w₀ L M f j a w)(hx:L.getD x false=false)(hy:L.getD y false=false):
  Inv (vK T (bQ pre) b1 b2) ops (EdP ops y x) (pl2 pre y x) keep fr G N Df M₀ h₀ w₀ L M f j a w:=by
 have hj:j≤bQ pre:=by
  have:=I.ph x (bQ pre) (wz.2 (.inr (.inl ⟨rfl,rfl,rfl⟩)))
  rw [hx] at this
  rcases Nat.lt_or_ge (bQ pre) j with h|h
  ·have:=this.2 h;cases this
  ·exact h
 refine⟨I.lsize,fun i k hk hl=>?_,by rw [avz];omega,fun i j' hm=>?_,I.rel,by rw [Zq hj];exact I.nx,I.f1,fun p hp=>by rw [Zq hj];exact I.f2 p hp,fun i j' p ob h1 h2=>by rw [Zq hj];exact I.f3 i j' p ob h1 h2,I.un,I.e1,I.e2,I.size,I.plain,I.ext⟩
 ·rcases hk with hk|⟨rfl,rfl⟩
  ·exact I.down i k (.inl hk) hl
  ·rw [hx] at hl;cases hl
 ·rcases wz.1 hm with h|⟨rfl,_,rfl⟩|⟨rfl,_,rfl⟩
  ·exact I.ph i j' (wz.2 (.inl h))
  ·rw [hy];constructor
   ·intro h;cases h
   ·intro h;omega
  ·rw [hx];constructor
   ·intro h;cases h
   ·intro h;omega
end
theorem aQg(hE:∀f F,e f=some F→aJ P G f F)(back:∀j i,Edge ops j i→j<i)(hxy:x≠y){b1 b2:Hp}{M₀:Mp}{w₀:World}
  (SA:Static ops (EdP ops x y) sb G N (pl2 pre x y)) (SB:Static ops (EdP ops y x) sb G N (pl2 pre y x))
  (A:Made T ops (EdP ops x y) (pl2 pre x y) h₀.next) (B:Made (vK T (bQ pre) b1 b2) ops (EdP ops y x) (pl2 pre y x) h₀.next)
  (stA:∀i c j,(i,c,j)∈phased 0 (pl2 pre x y)→jU P e ops sb fr T i c j) (stB:∀i c j,(i,c,j)∈phased 0 (pl2 pre y x)→jU P e ops sb fr (vK T (bQ pre) b1 b2) i c j)
  {Q:Exit→Act→World→Prop}
  (finA:∀L M f j a w,Inv T ops (EdP ops x y) (pl2 pre x y) keep fr G N Df M₀ h₀ w₀ L M f j a w→(∀i,i<ops.size→L.getD i false=true)→Q .normal a w)
  (finB:∀L M f j a w,Inv (vK T (bQ pre) b1 b2) ops (EdP ops y x) (pl2 pre y x) keep fr G N Df M₀ h₀ w₀ L M f j a w→(∀i,i<ops.size→L.getD i false=true)→Q .normal a w):
  ∀(fuel:Nat) (L:Array Bool) (M:Mp) (f:Hp) (j:Nat) (a:Act) (w:World),left L≤fuel→
   (Inv T ops (EdP ops x y) (pl2 pre x y) keep fr G N Df M₀ h₀ w₀ L M f j a w∨(Inv (vK T (bQ pre) b1 b2) ops (EdP ops y x) (pl2 pre y x) keep fr G N Df M₀ h₀ w₀ L M f j a w∧L.getD y false=true))→
   wpAny P .any ops Q fuel L a w:=by
 intro fuel
 induction fuel with
 |zero=>
  intro L M f j a w hl I
  have hsz:L.size=ops.size:=by rcases I with I|⟨I,_⟩<;>exact I.lsize
  have hall:∀i,i<ops.size→L.getD i false=true:=fun i hi=>arP (by omega) (by rw [hsz];exact hi)
  refine⟨?_,?_⟩
  ·apply List.eq_nil_iff_forall_not_mem.2
   intro i hi
   have R:=aaM hsz hi
   have:=hall i R.lt
   rw [R.no] at this;cases this
  ·rcases I with I|⟨I,_⟩
   ·exact finA L M f j a w I hall
   ·exact finB L M f j a w I hall
 |succ fuel ih=>
  intro L M f j a w hl I
  have hsz:L.size=ops.size:=by rcases I with I|⟨I,_⟩<;>exact I.lsize
  refine⟨fun hr=>?_,fun i hi=>?_⟩
  ·have hall:∀i,i<ops.size→L.getD i false=true:=fun i=>by
    induction i using Nat.strongRecOn with
    |_ i ihi=>
     intro hi
     cases hv:L.getD i false with
     |true=>rfl
     |false=>
      exfalso
      have:i∈Region.ready .any ops L:=auw hsz hi hv fun k hk=>ihi k (back k i hk) (by have:=back k i hk;omega)
      rw [hr] at this;cases this
   rcases I with I|⟨I,_⟩
   ·exact finA L M f j a w I hall
   ·exact finB L M f j a w I hall
  ·have R:=aaM hsz hi
   have hlt:=avp (by rw [hsz];exact R.lt) R.no
   rcases I with I|⟨I,hLy⟩
   ·by_cases hc:i=y∧L.getD x false=false
    ·obtain⟨rfl,hx⟩:=hc
     have I':=I.swap (b1:=b1) (b2:=b2) hx R.no
     have R':Ready ops (EdP ops i x) L i:=⟨R.lt,R.no,fun k hk=>by
      rcases hk with hk|⟨_,hk⟩
      ·exact R.edge k hk
      ·exact absurd hk.symm hxy⟩
     refine wpOp_mono ?_ (I'.step hE SB B stB R' (Q:=Q))
     rintro a' w' ⟨M',f',j',I2⟩
     refine ih _ M' f' j' a' w' (by omega) (.inr ⟨I2,?_⟩)
     rw [fH L (by rw [hsz];exact R.lt),if_pos rfl]
    ·have R':Ready ops (EdP ops x y) L i:=⟨R.lt,R.no,fun k hk=>by
      rcases hk with hk|⟨rfl,rfl⟩
      ·exact R.edge k hk
      ·cases hv:L.getD k false with
       |true=>rfl
       |false=>exact absurd ⟨rfl,hv⟩ hc⟩
     refine wpOp_mono ?_ (I.step hE SA A stA R' (Q:=Q))
     rintro a' w' ⟨M',f',j',I2⟩
     exact ih _ M' f' j' a' w' (by omega) (.inl I2)
   ·have R':Ready ops (EdP ops y x) L i:=⟨R.lt,R.no,fun k hk=>by
     rcases hk with hk|⟨rfl,rfl⟩
     ·exact R.edge k hk
     ·exact hLy⟩
    refine wpOp_mono ?_ (I.step hE SB B stB R' (Q:=Q))
    rintro a' w' ⟨M',f',j',I2⟩
    refine ih _ M' f' j' a' w' (by omega) (.inr ⟨I2,?_⟩)
    rw [fH L (by rw [hsz];exact R.lt)]
    split
    ·rfl
    ·exact hLy
end
end Go.Vm

namespace Go.Vm
noncomputable section
variable{P:Program}{e:FuncId→Option Fun}{ops:Array Oper}{sb:Nat→Nat→Bool}{fr:F}{keep:Nat→Bool}{G N:Nat}{Df:List Deferred}
variable{T:Tr}{pre:Plan}{h:Hp}{i x y:Nat}{out:Out}
def posOf(v:V):Option Pos:=match v with
 | .ptr p _=>some p
 |_=>none
def ahA(ops:Array Oper)(sb:Nat→Nat→Bool)(fr:F)(E:Env)(x:Nat):Option Pos:=match ops[x]? with
 |some o=>(match o.op with
  | .store _ a _=>(match a with
   | .tmp t=>(match HY ops sb x t with
    |true=>(match dn t E with|some v=>posOf v|none=>none)
    |false=>(match fr.get (Pos.of t) with|some v=>posOf v|none=>none))
   |_=>none)
  |_=>none)
 |none=>none
def avP(ops:Array Oper)(sb:Nat→Nat→Bool)(fr:F)(E:Env)(x y:Nat):Bool:=match ahA ops sb fr E x with
 |some p=>(match ahA ops sb fr E y with
  |some q=>(match p.eq q with|true=>false|false=>true)
  |none=>false)
 |none=>false
theorem auI{v:V}{p:Pos}(h:posOf v=some p):∃o,v=.ptr p o:=by
 unfold posOf at h
 split at h
 ·cases h;exact⟨_,rfl⟩
 ·cases h
theorem arA{E:Env}{o:Oper}{t:TypeId}{av zv:Operand}{u z:V}{p:Pos}(ho:ops[x]?=some o)(hop:o.op=.store t av zv)(hs:U6 ops sb fr E x o.op.operands.toList [u,z])(hp:ahA ops sb fr E x=some p):
  ∃q,u=.ptr p q:=by
 rw [hop] at hs
 obtain⟨u',us,e1,hu,-⟩:=hs
 cases e1
 unfold ahA at hp
 rw [ho] at hp
 simp only [hop] at hp
 split at hp
 ·rename_i t'
  rcases hu with⟨h1,h2⟩|⟨h1,h2⟩
  ·rw [h1] at hp
   simp only [h2] at hp
   exact auI hp
  ·rw [h1] at hp
   simp only [h2] at hp
   exact auI hp
 ·cases hp
theorem aKj{E:Env}(h:avP ops sb fr E x y=true):∃p q,ahA ops sb fr E x=some p∧ahA ops sb fr E y=some q∧p≠q:=by
 unfold avP at h
 split at h
 ·rename_i p hp
  split at h
  ·rename_i q hq
   split at h
   ·cases h
   ·rename_i hpq
    exact⟨p,q,hp,hq,Pos.eq_false.1 hpq⟩
  ·cases h
 ·cases h
def atO(P:Program)(keep:Nat→Bool)(e:FuncId→Option Fun)(ops:Array Oper)(sb:Nat→Nat→Bool)(pre:Plan)(x y:Nat)(fr:F)(h:Hp):Out:=
 xO P e ops sb fr (fun E h=>match avP ops sb fr E x y with|true=>vH keep E (fun fr=>.nor fr h) ops.toList fr|false=>.bad) (pl2 pre x y) [] ⟨h.t,bump (jB (pl2 pre x y)) h.next⟩ ⟨h.t,bump (jB (pl2 pre x y)) h.next⟩ [] h.next
theorem aa3{E:Env}:∀(l:List Oper) (fr:F) {H:Hp},vH keep E (fun fr=>.nor fr H) l fr≠ .bad→∃fr',∀H',vH keep E (fun fr=>.nor fr H') l fr=.nor fr' H'
 | [],fr,H,_=>⟨fr,fun _=>rfl⟩
 |o::l,fr,H,hne=>by
  unfold vH at hne
  cases hd:o.dst with
  |none=>
   rw [hd] at hne
   obtain⟨fr',h⟩:=aa3 l fr hne
   exact⟨fr',fun H'=>by unfold vH;rw [hd];exact h H'⟩
  |some d=>
   rw [hd] at hne
   cases hk:keep d with
   |false=>
    simp only [hk] at hne
    obtain⟨fr',h⟩:=aa3 l fr hne
    exact⟨fr',fun H'=>by unfold vH;rw [hd];simp only [hk];exact h H'⟩
   |true=>
    simp only [hk] at hne
    cases hv:dn d E with
    |none=>rw [hv] at hne;exact absurd rfl hne
    |some v=>
     rw [hv] at hne
     obtain⟨fr',h⟩:=aa3 l _ hne
     exact⟨fr',fun H'=>by unfold vH;rw [hd];simp only [hk,hv];exact h H'⟩
theorem eF.pair(hm:P.follows .mixedOrders=true)(hE:∀f F,e f=some F→aJ P G f F){id:Nat}(hnd:∀o∈ops.toList,∀c,o.op≠ .defer c)(back:∀j i,Edge ops j i→j<i)(hxy:x≠y)
  (SA:Static ops (EdP ops x y) sb G N (pl2 pre x y)) (SB:Static ops (EdP ops y x) sb G N (pl2 pre y x)) (hx:aIN ops x) (hy:aIN ops y):eF P keep G N (.region id ops true) (atO P keep e ops sb pre x y):=by
 intro ro n Df fr h M a w hne at_
 refine amH hm jf.atJ hnd ?_
 generalize hout:atO P keep e ops sb pre x y fr h=out at hne
 obtain⟨T,t⟩:=uZ hne (pl2 pre x y) [] _ _ [] [] h.next SA.nodup rfl hout
 have A:=aFi SA t
 have I0:=aDq SA t at_
 have hfin:=t.out
 simp only [List.length_nil,Nat.zero_add] at hfin
 have hdis:avP ops sb fr T.E x y=true:=by
  cases hd:avP ops sb fr T.E x y with
  |true=>rfl
  |false=>rw [hd] at hfin;exact absurd hfin.symm hne
 rw [hdis] at hfin
 have hfin:vH keep T.E (fun fr=>.nor fr (T.Cs (bQ (pl2 pre x y)))) ops.toList fr=out:=hfin
 obtain⟨ox,tx,ax,zx,x1,x2,x3,x4⟩:=hx
 obtain⟨oy,ty,ay,zy,y1,y2,y3,y4⟩:=hy
 obtain⟨tix,ux,vx,rx,x5,x6,x7⟩:=aBX x1 x2 x3 x4 (t.steps x .heavy (bQ pre) (wz.2 (.inr (.inl ⟨rfl,rfl,rfl⟩))))
 obtain⟨tiy,uy,vy,ry,y5,y6,y7⟩:=aBX y1 y2 y3 y4 (t.steps y .heavy (bQ pre+1) (wz.2 (.inr (.inr ⟨rfl,rfl,rfl⟩))))
 obtain⟨p,q,hp,hq,hpq⟩:=aKj hdis
 obtain⟨px,hux⟩:=arA x1 x4 x6 hp
 obtain⟨py,huy⟩:=arA y1 y4 y6 hq
 have noA:∀j,bQ pre<j→∀i r ob,(i,j,r,ob)∉T.A:=fun j hj i r ob hA=>by
  obtain⟨_,g2,_,_⟩:=A.a1 i j r ob hA
  rcases wz.1 g2 with h|⟨_,h,_⟩|⟨_,h,_⟩
  ·have:=(tK h).1;omega
  ·cases h
  ·cases h
 have hC1:∀r,(T.Cs (bQ pre+1)).get r=(T.Bs (bQ pre+1)).get r:=fun r=>(A.ct _).1 r fun i ob=>noA _ (by omega) i r ob
 have hC2:∀r,(T.Cs (bQ pre+2)).get r=(T.Bs (bQ pre+2)).get r:=fun r=>(A.ct _).1 r fun i ob=>noA _ (by omega) i r ob
 obtain⟨g1,g2,F1,F2,Fg,Fn⟩:=aCA x7 hC1 (A.ct _).2 y7 hux huy hpq
 have stB:∀i c j,(i,c,j)∈phased 0 (pl2 pre y x)→jU P e ops sb fr (vK T (bQ pre) g1 g2) i c j:=fun i c j hm=>by
  rcases wz.1 hm with hm|⟨rfl,rfl,rfl⟩|⟨rfl,rfl,rfl⟩
  ·have:=tK hm
   exact(t.steps i c j (wz.2 (.inl hm))).alt (by omega) (fun hc=>by have:=this.2 hc;omega)
  ·exact aJp y1 y2 y3 y4 y5 y6 (by rw [afk (Nat.le_refl _),aA3];exact F1)
  ·exact aJp x1 x2 x3 x4 x5 x6 (by rw [aA1,aA2];exact F2)
 have B:=aHO (b1:=g1) (b2:=g2) SA SB A
 obtain⟨fr',hF⟩:=aa3 ops.toList fr (by rw [hfin];exact hne)
 have hout':out=.nor fr' (T.Cs (bQ pre+2)):=by rw [←hfin,hF,avz]
 refine aQg hE back hxy SA SB A B t.steps stB (avO SA A t.steps at_ hne hfin) (fun L M' f j a' w' I hall=>?_) ops.size _ M (T.Bs 0) 0 a _ (by unfold left;exact Nat.le_trans List.countP_le_length (by simp)) (.inl I0)
 have:=avO (out:=.nor fr' g2) SB B stB at_ (by simp) (by
  show vH keep T.E (fun fr=>.nor fr ((vK T (bQ pre) g1 g2).Cs (bQ (pl2 pre y x)))) ops.toList fr=_
  rw [hF,avz,aA0]) L M' f j a' w' I hall
 rw [hout']
 obtain⟨M2,at2,hx2⟩:=this
 have he:∀r,(T.Cs (bQ pre+2)).get r=g2.get r:=fun r=>by rw [hC2,Fg]
 have hn:(T.Cs (bQ pre+2)).next=g2.next:=by rw [(A.ct _).2,Fn]
 exact⟨M2,⟨at2.rel.congr he hn,at2.fr,at2.size,at2.plain⟩,hx2.congr he hn⟩
end
end Go.Vm

namespace Go.Vm
noncomputable section
variable{P:Program}{e:FuncId→Option Fun}{ops:Array Oper}{keep:Nat→Bool}{G N:Nat}
def aJf:Plan→Option (Plan×Nat×Nat)
 | []=>none
 |z::l=>(match aJf l with
  |some (pre,x,y)=>some (z::pre,x,y)
  |none=>(match l with
   | []=>none
   |z'::l'=>(match l' with
    | []=>some ([],z.1,z'.1)
    |_::_=>none)))
def atK(ops:Array Oper)(x:Nat):Bool:=match ops[x]? with
 |some o=>(match o.guard,o.dst,o.op with
  |none,none,.store _ _ _=>true
  |_,_,_=>false)
 |none=>false
theorem avu{x:Nat}(h:atK ops x=true):aIN ops x:=by
 unfold atK at h
 split at h
 ·rename_i o ho
  split at h
  ·rename_i t av zv h1 h2 h3
   exact⟨o,t,av,zv,ho,h1,h2,h3⟩
  ·cases h
 ·cases h
def aeQ(ops:Array Oper)(ms:List Nat)(G N:Nat)(pre:Plan)(x y:Nat):Bool:=
 Ze ops ms&&(ahB ops (zD ms) (sbP (zD ms) x y) G N (pl2 pre x y)&&(ahB ops (zD ms) (sbP (zD ms) y x) G N (pl2 pre y x)&&(atK ops x&&(atK ops y&&!(Nat.beq x y)))))
theorem az6{ms:List Nat}(h1:Ze ops ms=true){x y i j:Nat}(hi:i<ops.size)(h:sbP (zD ms) x y j i=true):Bef (EdP ops x y) j i:=by
 unfold sbP at h
 rw [Bool.or_eq_true] at h
 rcases h with h|h
 ·exact(kF h1 hi h).mono fun _ _ h=>.inl h
 ·rw [Bool.and_eq_true] at h
  exact .one (.inr ⟨Nat.eq_of_beq_eq_true h.1,Nat.eq_of_beq_eq_true h.2⟩)
theorem aJR(hm:P.follows .mixedOrders=true)(hE:∀f F,e f=some F→aJ P G f F){id:Nat}(hnd:∀o∈ops.toList,∀c,o.op≠ .defer c){ms:List Nat}{pre:Plan}{x y:Nat}(h:aeQ ops ms G N pre x y=true):
  eF P keep G N (.region id ops true) (atO P keep e ops (zD ms) pre x y):=by
 simp only [aeQ,Bool.and_eq_true,Bool.not_eq_true'] at h
 obtain⟨h1,h2,h3,h4,h5,h6⟩:=h
 refine eF.pair hm hE hnd (fun j i he=>aaT h1 he) (Nat.ne_of_beq_eq_false h6) ?_ ?_ (avu h4) (avu h5)
 ·exact arw (fun hi hs=>(kF h1 hi hs).mono fun _ _ h=>.inl h) (fun hi hs=>az6 h1 hi hs) h2
 ·exact arw (fun hi hs=>(kF h1 hi hs).mono fun _ _ h=>.inl h) (fun hi hs=>az6 h1 hi hs) h3
def aCS(P:Program)(G N:Nat)(keep:Nat→Bool)(e:FuncId→Option Fun)(ops:Array Oper)(ms:List Nat)(plan:Plan):F→Hp→Out:=match aJf plan with
 |some (pre,x,y)=>(match aeQ ops ms G N pre x y with|true=>atO P keep e ops (zD ms) pre x y|false=>fun _ _=>.bad)
 |none=>fun _ _=>.bad
theorem aHC(hm:P.follows .mixedOrders=true)(hE:∀f F,e f=some F→aJ P G f F){id:Nat}(hnd:∀o∈ops.toList,∀c,o.op≠ .defer c){ms:List Nat}{plan:Plan}:
  eF P keep G N (.region id ops true) (aCS P G N keep e ops ms plan):=by
 unfold aCS
 split
 ·split
  ·rename_i h;exact aJR hm hE hnd h
  ·exact .bad
 ·exact .bad
end
end Go.Vm

namespace Go.Vm
noncomputable section
variable{P:Program}{G N:Nat}{keep:Nat→Bool}{e:FuncId→Option Fun}{ops:Array Oper}
def FN(t:Nat):List Nat→Bool
 | []=>false
 |u::l=>(match Nat.beq t u with|true=>true|false=>FN t l)
theorem akz{t:Nat}:∀{l:List Nat},FN t l=true↔t∈l
 | []=>by simp [FN]
 |u::l=>by
  simp only [FN]
  split
  ·rename_i h;simp [Nat.eq_of_beq_eq_true h]
  ·rename_i h;simp [akz,Nat.ne_of_beq_eq_false h]
def ahX(d:Option Nat)(us:List Nat):List Nat:=match d with
 |none=>us
 |some d=>us.filter fun u=>not (Nat.beq u d)
def XY(d:Option Nat)(us:List Nat):List Nat:=match d with
 |none=>us
 |some d=>d::us
def ifB(v:V)(t f:Out):Out:=match v with| .bool b=>(match b with|true=>t|false=>f)|_=>.bad
def aA(r:R V)(k:V→Hp→Out):Out:=match r with| .ok v h=>k v h| .bad=>.bad
def gtO(o:Option V)(k:V→Out):Out:=match o with|some v=>k v|none=>.bad
def nC(o:Out)(k:F→Hp→Out):Out:=match o with
 | .nor fr h=>k fr h
 | .ret fr h=>.ret fr h
 | .ex i fr h=>.ex i fr h
 | .bad=>.bad
def P9(P:Program)(keep:Nat→Bool)(e:FuncId→Option Fun)(ops:Array Oper):List Oper→List Nat→Env→F→Hp→Out
 | [],_,_,fr,h=>.nor fr h
 |o::l,us,env,fr,h=>(match o.guard with
  |none=>opK P keep e o env fr h (P9 P keep e ops l (ahX o.dst us))
  |some (j,b)=>(match (ops[j]?).bind (·.dst) with
   |none=>.bad
   |some d=>(match FN d us with
    |true=>xM keep o.dst V.undef env fr fun env fr=>P9 P keep e ops l (XY o.dst us) env fr h
    |false=>XT d env fr fun v env=>(match b with
     |true=>ifB v (opK P keep e o ((d,.bool true)::env) fr h (P9 P keep e ops l (ahX o.dst us))) (xM keep o.dst V.undef ((d,.bool false)::env) fr fun env fr=>P9 P keep e ops l (XY o.dst us) env fr h)
     |false=>ifB v (xM keep o.dst V.undef ((d,.bool true)::env) fr fun env fr=>P9 P keep e ops l (XY o.dst us) env fr h) (opK P keep e o ((d,.bool false)::env) fr h (P9 P keep e ops l (ahX o.dst us)))))))
def LeO(a b:Out):Prop:=a≠ .bad→b=a
theorem LeO.refl(a:Out):LeO a a:=fun _=>rfl
theorem LeO.bad(b:Out):LeO .bad b:=fun h=>absurd rfl h
def EqE(env env':Env):Prop:=∀t,dn t env=dn t env'
theorem EqE.refl(env:Env):EqE env env:=fun _=>rfl
theorem EqE.cons{env env':Env}(h:EqE env env')(d:Nat)(v:V):EqE ((d,v)::env) ((d,v)::env'):=fun t=>by rw [jA,jA,h t]
theorem EqE.known{env env':Env}(h:EqE env env'){d:Nat}{v:V}(hd:dn d env'=some v):EqE ((d,v)::env) env':=fun t=>by
 rw [jA]
 split
 ·rename_i e;subst e;exact hd.symm
 ·exact h t
def D7(us:List Nat)(env:Env):Prop:=∀d∈us,dn d env=some V.undef
theorem az1{t:Nat}{env env':Env}{fr:F}{k k':V→Env→Out}(he:EqE env env')(hk:∀v env1 env1',EqE env1 env1'→(∀u x,dn u env=some x→dn u env1=some x)→dn t env1=some v→LeO (k v env1) (k' v env1')):LeO (XT t env fr k) (XT t env' fr k'):=by
 unfold XT
 rw [←he t]
 cases hf:dn t env with
 |some v=>exact hk v env env' he (fun _ _ h=>h) hf
 |none=>
  simp only [gt]
  cases fr.get (Pos.of t) with
  |none=>exact LeO.bad _
  |some v=>
   refine hk v _ _ (he.cons t v) (fun u x hx=>?_) (by rw [jA,if_pos rfl])
   rw [jA,if_neg (fun e=>by subst e;rw [hf] at hx;cases hx)]
   exact hx
theorem aJS{x:Operand}{env env':Env}{fr:F}{k k':V→Env→Out}(he:EqE env env')(hk:∀v env1 env1',EqE env1 env1'→(∀u x,dn u env=some x→dn u env1=some x)→LeO (k v env1) (k' v env1')):LeO (XW x env fr k) (XW x env' fr k'):=by
 cases x with
 |tmp t=>exact az1 he fun v a b h g _=>hk v a b h g
 |const c=>
  simp only [XW]
  split
  ·exact hk _ _ _ he (fun _ _ h=>h)
  ·exact LeO.bad _
 |global g=>exact hk _ _ _ he (fun _ _ h=>h)
 |func f=>exact hk _ _ _ he (fun _ _ h=>h)
theorem auR{fr:F}:∀{l:List Operand} {env env':Env} {k k':List V→Env→Out} (_:EqE env env') (_:∀vs env1 env1',EqE env1 env1'→(∀u x,dn u env=some x→dn u env1=some x)→LeO (k vs env1) (k' vs env1')),LeO (amK l env fr k) (amK l env' fr k')
 | [],_,_,_,_,he,hk=>hk [] _ _ he (fun _ _ h=>h)
 |_::l,_,_,_,_,he,hk=>aJS he fun v _ _ h g=>auR (l:=l) h fun vs _ _ h' g'=>hk (v::vs) _ _ h' fun u x hx=>g' u x (g u x hx)
theorem aAL{d:Option Nat}{v:V}{env env':Env}{fr:F}{k k':Env→F→Out}(he:EqE env env')(hk:∀env1 env1' fr,EqE env1 env1'→(∀u x,d≠some u→dn u env=some x→dn u env1=some x)→(∀x,d=some x→dn x env1=some v)→LeO (k env1 fr) (k' env1' fr)):LeO (xM keep d v env fr k) (xM keep d v env' fr k'):=by
 cases d with
 |none=>exact hk _ _ _ he (fun _ _ _ h=>h) (fun x h=>by cases h)
 |some d=>
  have h1:∀u x,some d≠some u→dn u env=some x→dn u ((d,v)::env)=some x:=fun u x hu hx=>by rw [jA,if_neg (fun e=>hu (by rw [e]))];exact hx
  have h2:∀x,some d=some x→dn x ((d,v)::env)=some v:=fun x hx=>by cases hx;rw [jA,if_pos rfl]
  simp only [xM,aDf]
  split<;>exact hk _ _ _ (he.cons d v) h1 h2
theorem aNB{o:Oper}{env env':Env}{fr:F}{h:Hp}{k k':Env→F→Hp→Out}(he:EqE env env')(hk:∀env1 env1' fr h,EqE env1 env1'→(∀u x,o.dst≠some u→dn u env=some x→dn u env1=some x)→LeO (k env1 fr h) (k' env1' fr h)):LeO (opK P keep e o env fr h k) (opK P keep e o env' fr h k'):=by
 refine auR he fun vs env1 env1' h1 g1=>?_
 unfold bnd
 cases iQ P e o.op vs h with
 |bad=>exact LeO.bad _
 |ok v h2=>exact aAL h1 fun a b fr h3 g3 _=>hk a b fr h2 h3 fun u x hu hx=>g3 u x hu (g1 u x hx)
theorem D7.drop{us:List Nat}{env env1:Env}{d:Option Nat}(hu:D7 us env)(h:∀u x,d≠some u→dn u env=some x→dn u env1=some x):D7 (ahX d us) env1:=by
 intro t ht
 cases d with
 |none=>exact h t _ (by simp) (hu t ht)
 |some d=>
  simp only [ahX,List.mem_filter] at ht
  have hne:t≠d:=by
   intro e;subst e
   have:=ht.2
   simp [Nat.beq_refl] at this
  exact h t _ (fun e=>hne (by cases e;rfl)) (hu t ht.1)
theorem D7.add{us:List Nat}{env env1:Env}{d:Option Nat}(hu:D7 us env)(h:∀u x,d≠some u→dn u env=some x→dn u env1=some x)(h2:∀x,d=some x→dn x env1=some V.undef):D7 (XY d us) env1:=by
 intro t ht
 cases d with
 |none=>exact h t _ (by simp) (hu t ht)
 |some d=>
  by_cases e:t=d
  ·subst e;exact h2 t rfl
  ·simp only [XY,List.mem_cons,e,false_or] at ht
   exact h t _ (fun e'=>e (by cases e';rfl)) (hu t ht)
theorem D7.known{us:List Nat}{env:Env}{d:Nat}{v:V}(hu:D7 us env)(hd:dn d env=some v):D7 us ((d,v)::env):=fun t ht=>by
 rw [jA]
 split
 ·rename_i e;subst e;rw [←hd];exact hu t ht
 ·exact hu t ht
theorem apH:∀(l:List Oper) (us:List Nat) (env env':Env) (fr:F) (h:Hp),D7 us env→EqE env env'→LeO (P9 P keep e ops l us env fr h) (lQ P keep e ops l env' fr h)
 | [],_,_,_,_,_,_,_=>LeO.refl _
 |o::l,us,env,env',fr,h,hu,he=>by
  have yes:∀env1 env1':Env,D7 us env1→EqE env1 env1'→LeO (opK P keep e o env1 fr h (P9 P keep e ops l (ahX o.dst us))) (opK P keep e o env1' fr h (lQ P keep e ops l)):=fun env1 env1' hu1 he1=>
   aNB he1 fun a b fr h h3 g3=>apH l _ a b fr h (hu1.drop g3) h3
  have no:∀env1 env1':Env,D7 us env1→EqE env1 env1'→LeO (xM keep o.dst V.undef env1 fr fun env fr=>P9 P keep e ops l (XY o.dst us) env fr h) (xM keep o.dst V.undef env1' fr fun env fr=>lQ P keep e ops l env fr h):=fun env1 env1' hu1 he1=>
   aAL he1 fun a b fr h3 g3 g4=>apH l _ a b fr h (hu1.add g3 g4) h3
  rcases hg:o.guard with _|⟨j,b⟩
  ·simp only [P9,lQ,hg]
   exact yes env env' hu he
  ·simp only [P9,lQ,hg]
   cases hd:(ops[j]?).bind (·.dst) with
   |none=>exact LeO.bad _
   |some d=>
    simp only []
    cases hm:FN d us with
    |true=>
     have hd':dn d env'=some (.tuple .nil):=by rw [←he d];exact hu d (akz.1 hm)
     simp only [XT,hd',avC]
     exact no env env' hu he
    |false=>
     refine az1 he fun v env1 env1' h1 g1 hv=>?_
     have hu1:D7 us env1:=fun t ht=>g1 _ _ (hu t ht)
     have hv':dn d env1'=some v:=by rw [←h1 d];exact hv
     cases v<;>first|(cases b<;>exact LeO.bad _)|skip
     rename_i c
     cases c<;>cases b
     ·exact yes _ _ (hu1.known hv) (h1.known hv')
     ·exact no _ _ (hu1.known hv) (h1.known hv')
     ·exact no _ _ (hu1.known hv) (h1.known hv')
     ·exact yes _ _ (hu1.known hv) (h1.known hv')
def Dt(P:Program)(e:FuncId→Option Fun)(ops:Array Oper)(sb:Nat→Nat→Bool)(fr:F)(k:Env→Hp→Out):Plan→List Nat→Env→Hp→Hp→List Hp→Pos→Out
 | [],_,env,_,cur,_,_=>k env cur
 |(i,c)::l,us,env,base,cur,past,q=>(match ops[i]? with
  |none=>.bad
  |some o=>(match o.guard with
   |none=>zO ops sb fr i env o.op.operands.toList fun vs=>sJ P e o c vs base cur past q fun v base cur past q=>vJ o.dst v env fun env=>Dt P e ops sb fr k l us env base cur past q
   |some (g,b)=>(match (ops[g]?).bind (·.dst) with
    |none=>.bad
    |some d=>(match FN d us with
     |true=>Nu c base cur past q fun base cur past q=>vJ o.dst V.undef env fun env=>Dt P e ops sb fr k l (XY o.dst us) env base cur past q
     |false=>(match dn d env with
      |none=>.bad
      |some v=>(match b with
       |true=>ifB v
        (zO ops sb fr i ((d,.bool true)::env) o.op.operands.toList fun vs=>sJ P e o c vs base cur past q fun v base cur past q=>vJ o.dst v ((d,.bool true)::env) fun env=>Dt P e ops sb fr k l us env base cur past q)
        (Nu c base cur past q fun base cur past q=>vJ o.dst V.undef ((d,.bool false)::env) fun env=>Dt P e ops sb fr k l (XY o.dst us) env base cur past q)
       |false=>ifB v
        (Nu c base cur past q fun base cur past q=>vJ o.dst V.undef ((d,.bool true)::env) fun env=>Dt P e ops sb fr k l (XY o.dst us) env base cur past q)
        (zO ops sb fr i ((d,.bool false)::env) o.op.operands.toList fun vs=>sJ P e o c vs base cur past q fun v base cur past q=>vJ o.dst v ((d,.bool false)::env) fun env=>Dt P e ops sb fr k l us env base cur past q)))))))
variable{sb:Nat→Nat→Bool}{fr:F}
theorem aJT{i:Nat}{env env':Env}{x:Operand}{k k':V→Out}(he:EqE env env')(hk:∀v,LeO (k v) (k' v)):LeO (aks ops sb fr i env x k) (aks ops sb fr i env' x k'):=by
 cases x with
 |tmp t=>
  simp only [aks,←he t]
  split
  ·cases dn t env with
   |none=>exact LeO.bad _
   |some v=>exact hk v
  ·simp only [gt]
   cases fr.get (Pos.of t) with
   |none=>exact LeO.bad _
   |some v=>exact hk v
 |const c=>
  simp only [aks]
  split
  ·exact hk _
  ·exact LeO.bad _
 |global g=>exact hk _
 |func f=>exact hk _
theorem auT{i:Nat}{env env':Env}(he:EqE env env'):∀{l:List Operand} {k k':List V→Out},(∀vs,LeO (k vs) (k' vs))→LeO (zO ops sb fr i env l k) (zO ops sb fr i env' l k')
 | [],_,_,hk=>hk []
 |_::l,_,_,hk=>aJT he fun v=>auT he (l:=l) fun vs=>hk (v::vs)
theorem aAM{d:Option Nat}{v:V}{env env':Env}{k k':Env→Out}(he:EqE env env')(hk:∀env1 env1',EqE env1 env1'→(∀u x,dn u env=some x→dn u env1=some x)→(∀x,d=some x→dn x env1=some v)→LeO (k env1) (k' env1')):LeO (vJ d v env k) (vJ d v env' k'):=by
 cases d with
 |none=>exact hk _ _ he (fun _ _ h=>h) (fun x h=>by cases h)
 |some d=>
  simp only [vJ,←he d]
  cases hd:dn d env with
  |some _=>exact LeO.bad _
  |none=>exact hk _ _ (he.cons d v) (fun u x hx=>by rw [jA,if_neg (fun e=>by subst e;rw [hd] at hx;cases hx)];exact hx) (fun x hx=>by cases hx;rw [jA,if_pos rfl])
theorem aFt{m:Hp→R V}{v:V}{k k':Out}(hk:LeO k k'):∀(n:Nat) (l:List Hp),LeO (chk m v k n l) (chk m v k' n l)
 |0,[]=>hk
 |0,_::_=>hk
 |n+1,[]=>hk
 |n+1,g::l=>by
  unfold chk
  split
  ·split
   ·exact aFt hk n l
   ·exact LeO.bad _
  ·exact LeO.bad _
theorem aJ4{op:Op}{vs:List V}{base cur:Hp}{q:Pos}{k k':Hp→Out}(hk:∀h,LeO (k h) (k' h)):LeO (akE P op vs base cur q k) (akE P op vs base cur q k'):=by
 intro hne
 obtain⟨p,x,y,es,rfl,⟨t,mm,kk,vv,kt,et,d,rfl,h1,h2,h3⟩,h4,h5,h6,h7,h8⟩:=aAz hne rfl
 have key:∀g:Hp→Out,akE P (.insert t mm kk vv) [.map p,x,y] base cur q g=g (cur.put p (some (.map (es++ [(x,y)])))):=fun g=>by
  simp only [akE,h1,h2,aH1,h3,show Nat.blt p.nat q.nat=true by simpa [Nat.blt_eq] using h4,h5,h6,h7]
 rw [key,key]
 rw [key] at hne
 exact hk _ hne
theorem aKr{o:Oper}{c:Cls}{vs:List V}{base cur:Hp}{past:List Hp}{q:Pos}{k k':V→Hp→Hp→List Hp→Pos→Out}(hk:∀v base cur past q,LeO (k v base cur past q) (k' v base cur past q)):LeO (sJ P e o c vs base cur past q k) (sJ P e o c vs base cur past q k'):=by
 cases c with
 |pure=>
  simp only [sJ]
  split
  ·simp only [bnd];split
   ·exact hk _ _ _ _ _
   ·exact LeO.bad _
  ·exact LeO.bad _
 |read n=>
  simp only [sJ]
  split
  ·simp only [bnd];split
   ·exact aFt (hk _ _ _ _ _) _ _
   ·exact LeO.bad _
  ·exact LeO.bad _
 |alloc=>
  simp only [sJ]
  split
  ·exact hk _ _ _ _ _
  ·exact LeO.bad _
 |heavy=>
  simp only [sJ,bnd]
  split
  ·exact hk _ _ _ _ _
  ·exact LeO.bad _
 |own a=>
  simp only [sJ]
  split
  ·split
   ·unfold aHD
    split
    ·split
     ·simp only [bnd];split
      ·exact hk _ _ _ _ _
      ·exact LeO.bad _
     ·exact LeO.bad _
    ·exact LeO.bad _
   ·exact LeO.bad _
  ·exact LeO.bad _
 |ins a=>
  simp only [sJ]
  exact aJ4 fun h=>hk _ _ _ _ _
theorem aHp{c:Cls}{base cur:Hp}{past:List Hp}{q:Pos}{k k':Hp→Hp→List Hp→Pos→Out}(hk:∀base cur past q,LeO (k base cur past q) (k' base cur past q)):LeO (Nu c base cur past q k) (Nu c base cur past q k'):=by
 cases c<;>exact hk _ _ _ _
theorem akM{k k':Env→Hp→Out}(hk:∀env env' h,EqE env env'→LeO (k env h) (k' env' h)):∀(l:Plan) (us:List Nat) (env env':Env) (base cur:Hp) (past:List Hp) (q:Pos),D7 us env→EqE env env'→LeO (Dt P e ops sb fr k l us env base cur past q) (xO P e ops sb fr k' l env' base cur past q)
 | [],_,env,env',_,cur,_,_,_,he=>hk env env' cur he
 |(i,c)::l,us,env,env',base,cur,past,q,hu,he=>by
  cases ho:ops[i]? with
  |none=>simp only [Dt,ho];exact LeO.bad _
  |some o=>
   have yes:∀env1 env1':Env,D7 us env1→EqE env1 env1'→LeO (zO ops sb fr i env1 o.op.operands.toList fun vs=>sJ P e o c vs base cur past q fun v base cur past q=>vJ o.dst v env1 fun env=>Dt P e ops sb fr k l us env base cur past q)
     (zO ops sb fr i env1' o.op.operands.toList fun vs=>sJ P e o c vs base cur past q fun v base cur past q=>vJ o.dst v env1' fun env=>xO P e ops sb fr k' l env base cur past q):=fun env1 env1' hu1 he1=>
    auT he1 fun vs=>aKr fun v base cur past q=>aAM he1 fun a b h3 g3 _=>akM hk l us a b base cur past q (fun t ht=>g3 _ _ (hu1 t ht)) h3
   have no:∀env1 env1':Env,D7 us env1→EqE env1 env1'→LeO (Nu c base cur past q fun base cur past q=>vJ o.dst V.undef env1 fun env=>Dt P e ops sb fr k l (XY o.dst us) env base cur past q)
     (Nu c base cur past q fun base cur past q=>vJ o.dst V.undef env1' fun env=>xO P e ops sb fr k' l env base cur past q):=fun env1 env1' hu1 he1=>
    aHp fun base cur past q=>aAM he1 fun a b h3 g3 g4=>akM hk l _ a b base cur past q (hu1.add (fun u x _=>g3 u x) g4) h3
   rcases hg:o.guard with _|⟨g,b⟩
   ·simp only [Dt,xO,ho,hg]
    exact yes env env' hu he
   ·simp only [Dt,xO,ho,hg]
    cases hd:(ops[g]?).bind (·.dst) with
    |none=>exact LeO.bad _
    |some d=>
     simp only []
     cases hm:FN d us with
     |true=>
      have hd':dn d env'=some (.tuple .nil):=by rw [←he d];exact hu d (akz.1 hm)
      simp only [hd',aH4]
      exact no env env' hu he
     |false=>
      simp only [←he d]
      cases hf:dn d env with
      |none=>exact LeO.bad _
      |some v=>
       have hf':dn d env'=some v:=by rw [←he d];exact hf
       cases v<;>first|(cases b<;>exact LeO.bad _)|skip
       rename_i t
       cases t<;>cases b
       ·exact yes _ _ (hu.known hf) (he.known hf')
       ·exact no _ _ (hu.known hf) (he.known hf')
       ·exact no _ _ (hu.known hf) (he.known hf')
       ·exact yes _ _ (hu.known hf) (he.known hf')
theorem ahS{E E':Env}(he:EqE E E'){k:F→Out}:∀(l:List Oper) (fr:F),vH keep E k l fr=vH keep E' k l fr
 | [],_=>rfl
 |o::l,fr=>by
  simp only [vH]
  split
  ·exact ahS he l fr
  ·rename_i d _
   split
   ·exact ahS he l fr
   ·rw [←he d]
    split
    ·exact ahS he l _
    ·rfl
def aJm(P:Program)(keep:Nat→Bool)(e:FuncId→Option Fun)(ops:Array Oper)(sb:Nat→Nat→Bool)(plan:Plan)(fr:F)(h:Hp):Out:=
 Dt P e ops sb fr (fun E h=>vH keep E (fun fr=>.nor fr h) ops.toList fr) plan [] [] ⟨h.t,bump (jB plan) h.next⟩ ⟨h.t,bump (jB plan) h.next⟩ [] h.next
theorem aIf{plan:Plan}(fr:F)(h:Hp):LeO (aJm P keep e ops sb plan fr h) (aDr P keep e ops sb plan fr h):=
 akM (fun env env' h he=>by rw [ahS he];exact LeO.refl _) plan [] [] [] _ _ _ _ (fun _ h=>by cases h) (EqE.refl _)
theorem eF.le{c:Code}{D D':F→Hp→Out}(hd:eF P keep G N c D)(h:∀fr g,LeO (D' fr g) (D fr g)):eF P keep G N c D':=by
 intro ro n Df fr g M a w hne at_
 have e:=h fr g hne
 rw [←e]
 exact hd _ _ _ fr g M a w (by rw [e];exact hne) at_
def aV(c:Operand)(a b:F→Hp→Out)(fr:F)(h:Hp):Out:=XW c [] fr fun v _=>ifB v (a fr h) (b fr h)
theorem aAS(c:Operand)(a b:F→Hp→Out):aV c a b=aqf c a b:=by
 funext fr h
 rfl
def lS(P:Program)(G N:Nat)(keep:Nat→Bool)(e:FuncId→Option Fun)(pl:cO)(lf:Nat):Code→F→Hp→Out
 | .skip=>.nor
 | .label _=>.nor
 | .region id ops d=>(match d with
  |false=>P9 P keep e ops ops.toList [] []
  |true=>(match pl id with
   |some (ms,plan)=>(match aeP ops ms G N plan with|true=>aJm P keep e ops (zD ms) plan|false=>aCS P G N keep e ops ms plan)
   |none=>fun _ _=>.bad))
 | .seq a b=>aB (lS P G N keep e pl lf a) (lS P G N keep e pl lf b)
 | .cond c a b=>aV c (lS P G N keep e pl lf a) (lS P G N keep e pl lf b)
 | .block id b=>bP id (lS P G N keep e pl lf b)
 | .loop b=>dI (lS P G N keep e pl lf b) lf
 | .exit id=>.ex id
 | .ret=>.ret
 | .scope b=>lS P G N keep e pl lf b
 |_=>fun _ _=>.bad
theorem eG(hm:P.follows .mixedOrders=true)(hE:∀f F,e f=some F→aJ P G f F)(pl:cO)(lf:Nat):(c:Code)→codeOk G N c=true→eF P keep G N c (lS P G N keep e pl lf c)
 | .skip,_=>.nor fun _ _ _ _ _ h=>wpIn_skip h
 | .label _,_=>.nor fun _ _ _ _ _ h=>wpIn_label h
 | .region id ops d,hc=>by
  cases d with
  |true=>
   simp only [lS]
   split
   ·split
    ·rename_i hp;exact(eF.draw hm hE (arZ hc) (ay1 hp) (aEP hp)).le fun fr h=>aIf fr h
    ·exact aHC hm hE (arZ hc)
   ·exact .bad
  |false=>
   have:=eF.region (keep:=keep) (id:=id) hE (fun o ho=>by simp only [codeOk,List.all_eq_true] at hc;exact hc o ho)
   exact this.le fun fr h=>apH _ [] [] [] fr h (fun _ h=>by cases h) (EqE.refl _)
 | .seq a b,hc=>by simp only [codeOk,Bool.and_eq_true] at hc;exact .seq (eG hm hE pl lf a hc.1) (eG hm hE pl lf b hc.2)
 | .cond c a b,hc=>by
  simp only [codeOk,Bool.and_eq_true] at hc
  simp only [lS,aAS]
  refine .cond (fun g hg=>?_) (eG hm hE pl lf a hc.2.1) (eG hm hE pl lf b hc.2.2)
  subst hg
  simpa [Nat.blt_eq] using hc.1
 | .block id b,hc=>.block (eG hm hE pl lf b hc)
 | .loop b,hc=>.loop (eG hm hE pl lf b hc) lf
 | .exit id,_=>fun _ _ _ fr h M a w _ at_=>wpIn_exit ⟨rfl,M,at_,.refl at_.rel⟩
 | .ret,_=>fun _ _ _ fr h M a w _ at_=>wpIn_ret ⟨M,at_,.refl at_.rel⟩
 | .scope b,hc=>.scope (eG hm hE pl lf b hc)
 | .goto _,_=>.bad
 | .rangeFunc ..,_=>.bad
 | .refuse _,_=>.bad
def dU(P:Program)(G:Nat)(keep:Nat→Bool)(e:FuncId→Option Fun)(pl:cO)(lf:Nat)(fn:Func):Fun:=match fn.body with
 |some c=>bG P keep fn.ntmps fn.results.toList (lS P G fn.ntmps keep e pl lf c)
 |none=>fun _ _=>.bad
theorem bV(hm:P.follows .mixedOrders=true){f:FuncId}{fn:Func}{pl:cO}{lf:Nat}(hE:∀f F,e f=some F→aJ P G f F)(hf:P.funcs[f]?=some fn)(ho:atM G fn=true):aJ P G f (dU P G keep e pl lf fn):=by
 unfold atM at ho
 simp only [Bool.and_eq_true,Bool.not_eq_true'] at ho
 unfold dU
 cases hb:fn.body with
 |none=>rw [hb] at ho;cases ho.1
 |some c=>
  rw [hb] at ho
  exact aAX hf ho.2 hb (eG hm hE pl lf c ho.1)
end
end Go.Vm

namespace Go.Vm
noncomputable section
variable{P:Program}{G:Nat}{M:Mp}{h h':Hp}{w:World}
theorem Rel.store1(hr:Rel G M h w){i:Pos}{cs cs':List V}{L:Loc}{o:Nat}{v:V}{c:Value}{t:TypeId}{f:Bool}(hi:h.get i=some (.cells (.rw t f) cs))(hL:M i=some L)(hp:jk o [v] cs=some cs')(hx:Rp M v c)(hs:scalar c=true):
  (∃u,w.cell? (L.at o)=some u)∧w.frozen? (L.at o)=false∧Rel G M (h.put i (some (.cells (.rw t f) cs'))) (w.setCell (L.at o) c)∧Ext M h w M (h.put i (some (.cells (.rw t f) cs'))) (w.setCell (L.at o) c):=by
 obtain⟨w',h1,h2,h3⟩:=hr.store (P:=default) hi hL hp (xs:= [c]) ⟨c,[],hx,rfl,rfl⟩ (by simpa using hs)
 obtain⟨hfit,_⟩:=Gj o [v] hp
 obtain⟨L',hL',cc,el,fr,hb,hsz,hcell,hfr⟩:=hr.ob i _ hi
 rw [hL] at hL';cases hL'
 simp at hfit
 obtain⟨x,hx',_⟩:=hcell o cs[o] (List.getElem?_eq_getElem (by omega))
 have hlt:=(Array.getElem?_eq_some_iff.1 hx').1
 have hc:w.cell? (L.at o)=some x:=by simp [World.cell?,Loc.at,hb,hx']
 have hf:w.frozen? (L.at o)=false:=by
  have:=hfr.2.1 (L.off+o) (by omega) (by omega)
  simp only [World.frozen?,Loc.at,hb]
  rw [←Bool.not_eq_true]
  intro hh
  rw [Bool.and_eq_true] at hh
  exact this ⟨of_decide_eq_true hh.1,of_decide_eq_true hh.2⟩
 have hrun:=run_storeCells_cells (P:=default) L.blk (L.off+o) [c] 0 w
  (fun j hj=>by
   simp at hj;subst hj
   show(w.cell? (L.at o)).isSome=true
   rw [hc];rfl)
  (fun j hj=>by simp at hj;subst hj;exact hf)
  (fun v hv=>by simp at hv;subst hv;exact Sr hs)
 simp only [Nat.add_zero] at hrun
 have e:w'=w.setCell (L.at o) c:=by
  have e1:(storeCells (L.at o) [c]).run default w=.ok () (w.setCells L.blk (L.off+o) [c]):=hrun
  rw [h1] at e1
  cases e1
  rfl
 subst e
 exact⟨⟨x,hc⟩,hf,h2,h3⟩
def WL(k k':IntKind):Bool:=Nat.beq (kix k) (kix k')
def abh(k:IntKind):Fun:=fun args h=>match args with
 | [x]=>ug x fun i o=>dQ h i fun _ cs=>match AZ o cs with
  |some v=>(match v with
   | .int k' n=>(match WL k k' with|true=>.ok (.int k n) h|false=>.bad)
   |_=>.bad)
  |none=>.bad
 |_=>.bad
def Ot:Fun:=fun args h=>match args with
 | [x,y]=>(match y with
  | .int k n=>ug x fun i o=>dQ h i fun wr cs=>(match wr with
   | .rw t f=>(match jk o [.int k n] cs with|some cs'=>.ok V.undef (h.put i (some (.cells (.rw t f) cs')))|none=>.bad)
   | .ro=>.bad)
  |_=>.bad)
 |_=>.bad
def Zn(k:IntKind):Fun:=fun args h=>match args with
 | [x,y]=>(match y with
  | .int k2 m=>ug x fun i o=>dQ h i fun wr cs=>(match AZ o cs with
   |some v=>(match v with
    | .int k' n=>(match WL k k',WL k k2 with
     |true,true=>(match wr with
      | .rw t f=>(match iw k (xq k (n+m)) h with
       | .ok s _=>(match jk o [s] cs with|some cs'=>.ok s (h.put i (some (.cells (.rw t f) cs')))|none=>.bad)
       | .bad=>.bad)
      | .ro=>.bad)
     |_,_=>.bad)
    |_=>.bad)
   |none=>.bad)
  |_=>.bad)
 |_=>.bad
theorem aaJ{k k':IntKind}(h:WL k k'=true):k=k':=KD h
section
variable{f:FuncId}{fn:Func}(hf:P.funcs[f]?=some fn)(hname:(fn.name== "runtime.NumGoroutine")=false)(hb:fn.body.isNone=true)(hn:Extern.findNext fn=none)
include hf hname hb hn
theorem aze(k:IntKind)(he:Extern.find fn=some (Extern.Atomic.loadT (.int k))):aJ P G f (abh k):=by
 intro args h r h' M w cargs e hr ha
 unfold abh at e
 split at e
 ·rename_i x
  obtain⟨i,o,rfl,e1⟩:=lU e
  clear e
  obtain⟨wr,cs,hi,e⟩:=gK e1
  clear e1
  obtain⟨c,cs2,hc,hz,rfl⟩:=ha
  rw [show cs2= [] from hz]
  obtain⟨L,hL,rfl⟩:=hc.ptr
  rw [nK] at e
  split at e
  ·rename_i v hv
   split at e
   ·rename_i k' n
    split at e
    ·rename_i hk
     have:=aaJ hk
     subst this
     cases e
     obtain⟨y,hy,hry,_⟩:=hr.cell hi hL hv
     cases hry.int
     rw [show [Value.pointer (some (L.at o))].toArray= #[.pointer (some (L.at o))] from rfl,run_call_load hf hname hb hn k he hy]
     exact⟨M,iq M _ _,hr,.refl hr⟩
    ·cases e
   ·cases e
  ·cases e
 ·cases e
theorem afi(he:Extern.find fn=some Extern.Atomic.storeT):aJ P G f Ot:=by
 intro args h r h' M w cargs e hr ha
 unfold Ot at e
 split at e
 ·rename_i x y
  split at e
  ·rename_i k n
   obtain⟨i,o,rfl,e1⟩:=lU e
   clear e
   obtain⟨wr,cs,hi,e⟩:=gK e1
   clear e1
   obtain⟨c,cs2,hc,⟨d,ds,hd,hz,rfl⟩,rfl⟩:=ha
   rw [show ds= [] from hz]
   obtain⟨L,hL,rfl⟩:=hc.ptr
   cases hd.int
   split at e
   ·split at e
    ·rename_i hp
     cases e
     obtain⟨⟨u,hu⟩,hfz,h2,h3⟩:=hr.store1 (qN hi) hL hp (iq M k n) rfl
     rw [show [Value.pointer (some (L.at o)),.int k n].toArray= #[.pointer (some (L.at o)),.int k n] from rfl,run_call_store hf hname hb hn he hu hfz]
     exact⟨M,pG M,h2,h3⟩
    ·cases e
   ·cases e
  ·cases e
 ·cases e
theorem anr(k:IntKind)(he:Extern.find fn=some (Extern.Atomic.update (Op.intArith .add) k true)):aJ P G f (Zn k):=by
 intro args h r h' M w cargs e hr ha
 unfold Zn at e
 split at e
 ·rename_i x y
  split at e
  ·rename_i k2 m
   obtain⟨i,o,rfl,e1⟩:=lU e
   clear e
   obtain⟨wr,cs,hi,e⟩:=gK e1
   clear e1
   obtain⟨c,cs2,hc,⟨d,ds,hd,hz,rfl⟩,rfl⟩:=ha
   rw [show ds= [] from hz]
   obtain⟨L,hL,rfl⟩:=hc.ptr
   cases hd.int
   rw [nK] at e
   split at e
   ·rename_i v hv
    split at e
    ·rename_i k' n
     split at e
     ·rename_i hk hk2
      have:=aaJ hk
      subst this
      have:=aaJ hk2
      subst this
      obtain⟨z,hz1,hrz,_⟩:=hr.cell hi hL hv
      cases hrz.int
      split at e
      ·rw [fP,AU] at e
       simp only [] at e
       split at e
       ·rename_i hp
        cases e
        obtain⟨_,hfz,h2,h3⟩:=hr.store1 (qN hi) hL hp (iq M k (k.wrap (n+m))) rfl
        rw [show [Value.pointer (some (L.at o)),.int k m].toArray= #[.pointer (some (L.at o)),.int k m] from rfl,run_call_add hf hname hb hn k he hz1 hfz (s:=k.wrap (n+m)) rfl]
        exact⟨M,iq M _ _,h2,h3⟩
       ·cases e
      ·cases e
     ·cases e
    ·cases e
   ·cases e
  ·cases e
 ·cases e
def atF:Fun:=fun args h=>match args with| [x]=>.ok x h|_=>.bad
theorem aur(he:Extern.find fn=some Extern.AbiNoEscape.same):aJ P G f atF:=by
 intro args h r h' M w cargs e hr ha
 unfold atF at e
 split at e
 ·cases e
  obtain⟨c,cs2,hc,hz,rfl⟩:=ha
  rw [show cs2= [] from hz,run_callFunc_extern hf hname hb hn he]
  exact⟨M,hc,hr,.refl hr⟩
 ·cases e
def ae2(el:TypeId):Fun:=fun args h=>match args with
 | [x]=>(match x with
  | .int k n=>(match WL .i64 k with
   |true=>(match n with
    | .ofNat n=>(match Nat.ble n 140737488355328 with
     |true=>.ok (.slice h.next 0 n (.un 1)) (h.new (.cells (.rw el false) []))
     |false=>.bad)
    | .negSucc _=>.bad)
   |false=>.bad)
  |_=>.bad)
 |_=>.bad
theorem arH{ps:Array TypeId}{t el:TypeId}(ht:P.underlying t=some (.slice el))(he:Extern.find fn=some (Extern.BytealgMakeNoZero.makeNoZero ps #[t])):aJ P G f (ae2 el):=by
 intro args h r h' M w cargs e hr ha
 unfold ae2 at e
 split at e
 ·rename_i x
  split at e
  ·rename_i k n0
   split at e
   ·rename_i hk
    have:=aaJ hk
    subst this
    split at e
    ·rename_i n
     split at e
     ·rename_i hle
      have hle:=Nat.le_of_ble_eq_true hle
      cases e
      obtain⟨c,cs2,hc,hz,rfl⟩:=ha
      rw [show cs2= [] from hz]
      cases hc.int
      obtain⟨cs,hrun,h1,h2⟩:=Go.Lib.run_makeNoZero (P:=P) w ps t el ht n (by omega)
      rw [run_callFunc_extern hf hname hb hn he]
      rw [show [Value.int .i64 (Int.ofNat n)].toArray= #[Value.int .i64 (n:Int)] from rfl,hrun]
      have:=hr.new (.cells (.rw el false) []) (.cells cs el (0,0)) cs.size (w':=w.drew.drew.alloc (.cells cs el)) rfl rfl rfl rfl
       (fun N _=>⟨cs,el,(0,0),by simp only [World.alloc];exact Array.getElem?_push_size,rfl,fun k v hk=>(by simp at hk),rfl,fun k _ _ h=>(by simp at h),fun h=>(by cases h)⟩)
      refine⟨_,?_,this.1,this.2.1⟩
      exact ji (o:=0) (M.fE h.next ⟨w.heap.size,0,cs.size⟩) ⟨⟨h1,h2 (by unfold maxLen;omega)⟩,by show 0+0+cs.size*1=cs.size;omega⟩
     ·cases e
    ·cases e
   ·cases e
  ·cases e
 ·cases e
end
end
end Go.Vm

namespace Go.Vm
noncomputable section
open Go.RowKit
variable{P:Program}{G:Nat}{M:Mp}{h:Hp}{w:World}
theorem bC:∀f F,(fun _=>none:FuncId→Option Fun) f=some F→aJ P G f F:=fun _ _ h=>by cases h
theorem aS{g:FuncId}{F:Fun}{e:FuncId→Option Fun}(h1:aJ P G g F)(h2:∀f F,e f=some F→aJ P G f F):∀f F',(fun f=>match Nat.beq f g with|true=>some F|false=>e f:FuncId→Option Fun) f=some F'→aJ P G f F':=by
 intro f F' h
 simp only [] at h
 split at h
 ·rename_i hb;cases h;rw [Nat.eq_of_beq_eq_true hb];exact h1
 ·exact h2 f F' h
def lf:Nat:=10000000000000000000
def codeOf(fn:Func):Code:=fn.body.getD .skip
structure Seen (G:Nat) (M:Mp) (h:Hp) (w:World):Prop where
 rel:Rel G M h w
 un:∀i o,h.get i=some o→o.own=false
def h0(G:Nat):Hp:=⟨.nil,Pos.of G⟩
def m0(G:Nat):Mp:=fun p=>if p.nat<G then some ⟨p.nat,0,0⟩ else none
theorem afb(G:Nat)(i:Pos):(h0 G).get i=none:=T.get_nil i
theorem Seen.empty(G:Nat)(w:World):Seen G (m0 G) (h0 G) w:=by
 refine⟨⟨fun i o hi=>?_,fun i hi=>?_,fun i j o p L K _ hi=>?_,fun g hg=>⟨0,?_⟩⟩,fun i o hi=>?_⟩
 ·rw [afb] at hi;cases hi
 ·have:G≤i.nat:=by have:=hi;rw [show(h0 G).next=Pos.of G from rfl,Pos.gU] at this;exact this
  unfold m0;rw [if_neg (by omega)]
 ·rw [afb] at hi;cases hi
 ·unfold m0;rw [Pos.gU,if_pos hg]
 ·rw [afb] at hi;cases hi
theorem ay8{f:FuncId}{F:Fun}{fn:Func}{c:Code}(hF:aJ P G f F)(hf:P.funcs[f]?=some fn)(hn:(fn.name== "runtime.NumGoroutine")=false)(hb:fn.body=some c)(S:Seen G M h w){args:List V}{cargs:List Value}(ha:bZ M args cargs){h':Hp}
  (e:F args h=.ok (.bool true) h'):Calls P f cargs.toArray w fun e w'=>e=.returned (.bool true)∧Below w.heap.size w w':=by
 have:=hF args h _ h' M w cargs e S.rel ha
 have hrun:(callFunc f cargs.toArray).run P w=.ok (.enter f cargs.toArray) w:=by
  unfold callFunc
  rw [Sem.run_bind,run_program];have hn':¬fn.name= "runtime.NumGoroutine" :=by simpa using hn
  simp [hf,hn',hb]
 rw [hrun] at this
 refine Calls.mono this ?_
 rintro e w' ⟨cv,rfl,M',hr,hrel,hx⟩
 have:=hr.bool
 subst this
 refine⟨rfl,hx.os,hx.tape,hx.output,hx.size,fun k hk=>hx.same k hk fun i o L hi ho _=>?_⟩
 rw [S.un i o hi] at ho;cases ho
theorem Opq.mono{p q:Value→World→Prop}(hpq:∀c w,p c w→q c w){r:Result Next}(h:Opq P p r):Opq P q r:=by
 unfold Opq at h⊢
 split at h
 ·exact hpq _ _ h
 ·exact hpq _ _ h
 ·exact Calls.mono h fun e w' ⟨c,e1,e2⟩=>⟨c,e1,hpq _ _ e2⟩
 ·exact h.elim
theorem Rel.after{w':World}{M':Mp}{h':Hp}(r:Rel G M h w)(x:Ext (m0 G) (h0 G) w M' h' w'):Rel G M h w'∧Ext M h w M h w':=by
 have hb:∀b,b<w.heap.size→w'.heap[b]?=w.heap[b]?:=fun b hb=>x.same b hb fun i o L hi _ _=>by rw [afb] at hi;cases hi
 refine⟨⟨fun i o hi=>?_,r.fresh,r.sep,r.gl⟩,⟨M.le_refl,Nat.le_refl _,x.os,x.tape,x.output,x.size,fun b hlt _=>hb b hlt,fun i o L a b c=>.inr ⟨i,o,L,a,b,c,rfl⟩,fun _ _ h=>h,fun i o L a b=>.inr ⟨i,o,L,a,b,rfl⟩,fun _ _ h=>h⟩⟩
 obtain⟨L,hL,ho⟩:=r.ob i o hi
 exact⟨L,hL,ho.of_block (hb _ ho.lt)⟩
def jY(c:Nat):List Nat→Int
 | []=> -1
 |d::l=>(match Nat.beq d c with
  |true=>0
  |false=>(match jY c l with
   | .ofNat n=>.ofNat (n+1)
   | .negSucc _=> -1))
theorem aJ6(c:Nat)(l:List Nat): -1≤jY c l:=by
 induction l with
 |nil=>simp [jY]
 |cons d l ih=>
  simp only [jY]
  split
  ·omega
  ·split
   ·rename_i n _
    have:(0:Int)≤Int.ofNat (n+1):=Int.natCast_nonneg _
    omega
   ·omega
theorem aAB{c:Nat}(hc:c<256):∀{s:List Nat},(∀b∈s,b<256)→jY c s=Go.Lib.indexByte (s.map UInt8.ofNat) (UInt8.ofNat c)
 | [],_=>rfl
 |d::l,h=>by
  have ih:=aAB hc (s:=l) fun b hb=>h b (by simp [hb])
  have hd:=h d (by simp)
  have hge:=aJ6 c l
  simp only [jY,List.map_cons,Go.Lib.indexByte,←ih]
  have e:(UInt8.ofNat d==UInt8.ofNat c)=Nat.beq d c:=by
   rw [Bool.eq_iff_iff]
   simp only [beq_iff_eq]
   exact⟨fun h=>by rw [Hw hd hc h];exact Nat.beq_refl c,fun h=>by rw [Nat.eq_of_beq_eq_true h]⟩
  rw [e]
  cases Nat.beq d c with
  |true=>rfl
  |false=>
   simp only [Bool.false_eq_true,if_false]
   cases hi:jY c l with
   |ofNat n=>
    have:(Int.ofNat n== -1)=false:=by rw [beq_eq_false_iff_ne];intro h;cases h
    rw [this];rfl
   |negSucc n=>
    have:n=0:=by rw [hi] at hge;omega
    subst this;rfl
def avx:Fun:=fun args h=>match args with
 | [s,c]=>(match s with
  | .str l=>(match c with
   | .int k n=>(match Nat.beq (kix k) 4 with
    |true=>(match n with
     | .ofNat b=>(match Nat.blt b 256 with|true=>iw .i64 (jY b l) h|false=>.bad)
     | .negSucc _=>.bad)
    |false=>.bad)
   |_=>.bad)
  |_=>.bad)
 |_=>.bad
theorem ap5{f:FuncId}{fn:Func}(hf:P.funcs[f]?=some fn)(hname:(fn.name== "runtime.NumGoroutine")=false)(hb:fn.body.isNone=true)(hn:Extern.findNext fn=none)(he:Extern.find fn=some Extern.BytealgIndexByte.indexByte):aJ P G f avx:=by
 intro args h r h' M w cargs e hr hargs
 unfold avx at e
 split at e
 ·rename_i s c
  split at e
  ·rename_i l
   split at e
   ·rename_i k n
    split at e
    ·rename_i hk
     have hk':k=.u8:=by cases k<;>first|rfl|cases hk
     subst hk'
     split at e
     ·rename_i b
      split at e
      ·rename_i hb2
       have hb3:b<256:=by simpa [Nat.blt_eq] using hb2
       obtain⟨cs,x1,hcs,⟨cc,x2,hcc,hx2,rfl⟩,rfl⟩:=hargs
       rw [show x2= [] from hx2]
       obtain⟨hl,rfl⟩:=hcs.str
       have hcc':=hcc.int
       subst hcc'
       rw [fP] at e
       cases e
       rw [run_callFunc_extern hf hname hb hn he,Go.Lib.run_indexByteString]
       simp only [Result.andThen,Opq]
       refine⟨M,?_,hr,.refl hr⟩
       have e1:(bts l).data.toList=l.map UInt8.ofNat:=by simp [bts]
       have e2:((Int.ofNat b).toNat.toUInt8)=UInt8.ofNat b:=rfl
       rw [e1,e2,←aAB hb3 hl]
       exact iq M _ _
      ·cases e
     ·cases e
    ·cases e
   ·cases e
  ·cases e
 ·cases e
end
end Go.Vm

namespace Go.Vm
noncomputable section
variable{P:Program}{G:Nat}
def apQ(el:TypeId)(h:Hp):R V:=.ok (.slice h.next 0 0 (.kn 0)) (h.new (.cells (.rw el true) []))
def ahL(op:BinOp)(offs:List (TypeDesc×Nat))(x y:V)(h:Hp):R V:=match x,y with
 | .agg xs,.agg ys=>(match NK offs xs.list ys.list with
  |some b=>(match op with| .eql=>fM b h| .neq=>fM (not b) h|_=>.bad)
  |none=>.bad)
 |_,_=>.bad
def FT(a:A)(k:Ob→(Pos→V)→Out):Out:=match a with|some (ob,mk)=>k ob mk|none=>.bad
def aH(n:Nat)(h:Hp):Hp:=⟨h.t,bump n h.next⟩
theorem aAC{fn:Func}{keep:Nat→Bool}{e:FuncId→Option Fun}{pl:cO}{l:Nat}{D:F→Hp→Out}(hb:fn.body=some (codeOf fn))(hD:lS P G fn.ntmps keep e pl l (codeOf fn)=D){args:List V}(hn:Nat.ble args.length fn.ntmps=true)(h:Hp):
  dU P G keep e pl l fn args h=aT P fn.results.toList (D (xJ keep 0 args .nil) h):=by
 unfold dU
 rw [hb]
 simp only [bG,hn,hD]
end
end Go.Vm

namespace Go.Vm
open Go.Lib Go.Proofs
structure CaseTy (P:Program) (g:Nat) (tU tI tA tR tS:TypeId) (f0 f1 f2:Field):Prop where
 name:P.globalNamed "unicode.CaseRanges" =some g
 glob:(P.globals[g]?).map (·.type)=some tS
 s:P.underlying tS=some (.slice tR)
 r:P.underlying tR=some (.struct #[f0,f1,f2])
 a:P.underlying tA=some (.array 3 tI)
 u:P.underlying tU=some (.int .u32)
 i:P.underlying tI=some (.int .i32)
 ty:(f0.type=tU∧f1.type=tU)∧f2.type=tA
 off:(f0.offset=0∧f1.offset=1)∧f2.offset=2
 cu:P.cellsOf tU=1
 ci:P.cellsOf tI=1
 ca:P.cellsOf tA=3
 cr:P.cellsOf tR=5
end Go.Vm

namespace Go.Vm
noncomputable section
variable{G N:Nat}{M:Mp}{h:Hp}{w:World}{keep:Nat→Bool}
abbrev DV:=FuncId×List V×List V
abbrev DS:=List DV
inductive OutD where
 |nor (fr:F) (h:Hp) (ds:DS)
 |ret (fr:F) (h:Hp) (ds:DS)
 |bad
def SC(fr:F):List Operand→Option (List V)
 | []=>some []
 |x::l=>(match x with
  | .tmp t=>(match fr.get (Pos.of t) with|some v=>(match SC fr l with|some vs=>some (v::vs)|none=>none)|none=>none)
  | .const c=>(match const c with|some v=>(match SC fr l with|some vs=>some (v::vs)|none=>none)|none=>none)
  | .func f=>(match SC fr l with|some vs=>some (.func (.func f) .nil .nil::vs)|none=>none)
  | .global _=>none)
def aJ3(o:Oper):Bool:=match o.op with| .defer _=>true|_=>false
def defers:Code→Bool
 | .region _ ops _=>ops.toList.any aJ3
 | .seq a b=>defers a||defers b
 | .cond _ a b=>defers a||defers b
 |_=>false
theorem Uy{Df:List Deferred}{fr:F}{a:Act}(at_:At keep G N Df M fr h a w):∀{l:List Operand} {vs:List V},SC fr l=some vs→bZ M vs (l.map a.eval)
 | [],vs,e0=>by cases e0;rfl
 |x::l,vs,e0=>by
  simp only [SC] at e0
  split at e0
  ·rename_i t
   split at e0
   ·rename_i v hv
    split at e0
    ·rename_i us hus
     cases e0
     exact⟨_,_,(at_.fr t v hv).2,Uy at_ hus,rfl⟩
    ·cases e0
   ·cases e0
  ·rename_i c
   split at e0
   ·rename_i v hv
    split at e0
    ·rename_i us hus
     cases e0
     exact⟨_,_,UL hv M,Uy at_ hus,rfl⟩
    ·cases e0
   ·cases e0
  ·rename_i f
   split at e0
   ·rename_i us hus
    cases e0
    exact⟨_,_,⟨rfl,.func f,[],[],rfl,⟨rfl,rfl⟩,rfl,rfl,rfl⟩,Uy at_ hus,rfl⟩
   ·cases e0
  ·cases e0
end
end Go.Vm

namespace Go.Vm
noncomputable section
variable{P:Program}{G:Nat}{M:Mp}{h h':Hp}{w:World}{keep:Nat→Bool}{e:FuncId→Option Fun}{r:V}
def aNc(P:Program)(G:Nat)(f:FuncId)(F:Fun):Prop:=
 ∀(args:List V) (h:Hp) (r:V) (h':Hp) (M:Mp) (w:World) (cargs:List Value),F args h=.ok r h'→Rel G M h w→bZ M args cargs→
  (callFunc f cargs.toArray).run P w=.ok (.enter f cargs.toArray) w∧
  CallsD P f cargs.toArray .returning w fun e u w'=>u=.returning∧∃c,e=.returned c∧Post G M h w r h' c w'
def aG7(P:Program)(G:Nat)(f:FuncId)(F:Fun):Prop:=
 ∃fn c,P.funcs[f]?=some fn∧fn.body=some c∧(∀args w,(callFunc f args).run P w=.ok (.enter f args) w)∧
 ∀(args:List V) (h:Hp) (r:V) (h':Hp) (M:Mp) (w:World) (cargs:List Value),F args h=.ok r h'→Rel G M h w→bZ M args cargs→
  c.wp P (bodyPost P fn fun e w'=>∃c,e=.returned c∧Post G M h w r h' c w') {tmps:=cargs.toArray++Array.replicate (fn.ntmps - cargs.toArray.size) undef,defers:= []} w
theorem aG7.deferred{f:FuncId}{F:Fun}(hb:aG7 P G f F):aNc P G f F:=by
 obtain⟨fn,c,h1,h2,h3,h4⟩:=hb
 intro args h r h' M w cargs e hr ha
 exact⟨h3 _ _,callsD_of_wp h1 h2 (h4 args h r h' M w cargs e hr ha)⟩
theorem aeI{f:FuncId}{fn:Func}{c:Code}(hf:P.funcs[f]?=some fn)(hn:(fn.name== "runtime.NumGoroutine")=false)(hb:fn.body=some c)(args:Array Value)(w:World):
  (callFunc f args).run P w=.ok (.enter f args) w:=by
 unfold callFunc
 rw [Sem.run_bind,run_program];have hn':¬fn.name= "runtime.NumGoroutine" :=by simpa using hn
 simp [hf,hn',hb]
theorem aAA{fn:Func}{args:List V}{cargs:List Value}(hr:Rel G M h w)(ha:bZ M args cargs)(hle:args.length≤fn.ntmps):
  At keep G fn.ntmps [] M (xJ keep 0 args .nil) h {tmps:=cargs.toArray++Array.replicate (fn.ntmps - cargs.toArray.size) undef,defers:= []} w:=by
 have hlen:=ha.length
 refine⟨hr,aaY keep _ args 0 _ (fun j v hj=>?_) (fun t v hv=>by rw [T.get_nil] at hv;cases hv),by simp;omega,rfl⟩
 obtain⟨x,hx,hrx⟩:=ha.get hj
 have hj':j<cargs.length:=by
  rcases Nat.lt_or_ge j cargs.length with h1|h1
  ·exact h1
  ·rw [List.getElem?_eq_none h1] at hx;cases hx
 have:(cargs.toArray++Array.replicate (fn.ntmps - cargs.toArray.size) undef).getD (0+j) undef=x:=by
  rw [Array.getD_eq_getD_getElem?,Array.getElem?_append_left (by simpa using hj')]
  simp [hx]
 simp only [this]
 exact hrx
end
end Go.Vm
