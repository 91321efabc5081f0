/- Lemmas. No conditions. -/
import Derived.Test.YtpgppmioigacoaaGreatDoorSAE
set_option linter.all false
open Go.Region renaming wanted→a!
open Nat renaming le_refl→b!
open Array renaming getD_eq_getD_getElem?→c!,replicate→e!,getD→i!
noncomputable section
namespace Go.Vm
section
variable{P:Program}{e:FuncId->Option Fun}{Ed:Nat->Nat->Prop}{ops:Array Oper}{sb:Nat->Nat->Bool}{fr:F}{keep:Nat->Bool}{G N:Nat}{Df:List Deferred}
variable{T:Tr}{plan:Plan}{M₀ M:Mp}{h₀ f:Hp}{w₀ w:World}{L:Array Bool}{j:Nat}{a:Act}{i:Nat}
def amL(c:Value):Option Bool:=match c with| .bool b=>some b|_=>none
def aek{g d:Nat}{c:Value}(hd:(ops[g]?).bind (·.dst)=some d)(b:a.tmps.getD d undef=c):yielded ops a.tmps g=amL c:=by
 unfold yielded;rw[hd];simp only[Option.bind_some];rw[c!]at b;cases h:a.tmps[d]? with
 |none=>rw[h]at b;simp at b;subst b;rfl
 |some z=>rw[h]at b;simp at b;subst b;cases z<;>rfl
def Inv.akH(I:Inv T ops Ed plan keep fr G N Df M₀ h₀ w₀ L M f j a w)(S:Static ops Ed sb G N plan)(R:Ready ops Ed L i){o:Oper}(l:ops[i]?=some o){g d:Nat}{b:Bool}(k:o.guard=some (g,b))(hd:(ops[g]?).bind (·.dst)=some d){v:V}(m:dA d T.E=some v):
  Rp M v (a.tmps.getD d undef):=by
 have h:=R.bef I.down (S.guard i o g b l k);cases c:ops[g]? with
 |none=>rw[c]at hd;cases hd
 |some n=>
  rw[c]at hd;exact I.e1 g n d v h c hd m
def Inv.step(hE:∀f F,e f=some F->aH P G f F)(I:Inv T ops Ed plan keep fr G N Df M₀ h₀ w₀ L M f j a w)(S:Static ops Ed sb G N plan)(A:Made T ops Ed plan h₀.next)
  (ay:∀i c j,(i,c,j)∈phased 0 plan->jP P e ops sb fr T i c j) (R:Ready ops Ed L i) {Q:Exit->Act->World->Prop}:
  wpOp P ops Q i (λa' w'=>∃M' f' j',Inv T ops Ed plan keep fr G N Df M₀ h₀ w₀ (L.setIfInBounds i true) M' f' j' a' w') a w:=by
 obtain⟨c,j',C⟩:=S.cover i R.lt;obtain⟨o,H,al⟩:=ay i c j' C;unfold wpOp;simp only[H];have ac:c≠ .alloc->∀j1 p ob,(i,j1,p,ob)∉T.A:=λW j1 p ob h=>by
  obtain⟨O,_⟩:=jL S.nodup C (A.a1 _ _ _ _ h).2.1;exact W O
 have ad:(∀x,c≠ .ins x)->∀j p x y,(i,j,p,x,y)∉T.I:=λW j1 p1 x1 y1 h=>by
  obtain⟨a1,O,_⟩:=A.i1 _ _ _ _ _ h;obtain⟨h2,_⟩:=jL S.nodup C O;exact W _ h2
 have ae:Rel G M (T.Bs j) w:=I.rel.sub I.akV (by rw[I.nx];exact b! _);have af:c=.heavy->j'=j/\Rel G M (T.Cs j) w:=λW=>by
  subst W;have hj:=I.aHb S R C;subst hj;refine⟨rfl,I.rel.sub (I.azZ A (λi' p ob h=>R.bef I.down (S.alloc i' _ i _ (A.a1 _ _ _ _ h).2.1 C (b! _))) λi' p x y h=>?_) ?_⟩
  ·obtain⟨a1,O,_⟩:=A.i1 _ _ _ _ _ h;exact R.bef I.down (S.insU i' a1 _ i _ O C (b! _))
  rw[I.nx,(A.ct _).2];exact b! _
 rcases al with⟨J,vs,v,Y,hd,r⟩|⟨⟨g,b,d,J,s,m⟩,hd,hh⟩
 ·have hw:a! o (yielded ops a.tmps)=true:=by
   rcases J with J|⟨g,b,d,J,s,m⟩
   ·simp[a!,J]
   ·have:=(I.akH S R H J s m).bool;have hy:=aek s this;simp[a!,J,hy,amL]
  rw[if_pos hw];left;have K:=I.operands S R H (λ_ h=>h) Y;cases c with
  |pure=>
   obtain⟨a8,O,h2,q⟩:=r;have au:iK P e o.op vs (T.Bs j)=.ok v (T.Bs j):=by
    have:=pure_ok (e:=e) vs a8 O (T.Bs j);rw[q]at this;exact this
   exact FP (LG hE K ae au) λcv w' ⟨M',Z,z,hx⟩=>⟨M',f,j,I.still S A R H C (by simp) (ac (by simp)) (ad (by simp)) z hx Z hd⟩
  |read n=>
   obtain⟨a9,q⟩:=r;obtain⟨O,h2⟩:=I.aIR S R C;obtain⟨h',q⟩:=q j O h2;have ao:=aDV a9 q;subst ao;exact FP (LG hE K ae q) λcv w' ⟨M',Z,z,hx⟩=>⟨M',f,j,I.still S A R H C (by simp) (ac (by simp)) (ad (by simp)) z hx Z hd⟩
  |alloc=>
   obtain⟨ob,mk,p,ak,Z,hA⟩:=r;obtain⟨cv,w',bb,n,ax,bf,a5,ht,aw,a4,a0⟩:=ayj (P:=P) (w:=w) K ak;unfold Oper.wp;rw[ax];refine⟨_,_,j,I.make S A R H C hA bf a5 ht aw a4 (v:=v) ?_ hd⟩;rw[Z];exact a0 _ _ (Mp.fB _ _ _)
  |own x=>
   obtain⟨u,p,O,rfl,ai,hu,q⟩:=r;obtain⟨a7,U,oa,o',t,a3,az,D,av,ba⟩:=S.ownA i x j' C;rw[H]at D;cases D;have aD:=R.bef I.down U;have hj:=I.aNM S R C;obtain⟨bh,ah,aE⟩:=ay x .alloc j' a7;rw[a3]at ah;cases ah;rw[av]at Y;obtain⟨u',us,bd,bc,-⟩:=Y;cases bd;have aB:dA t T.E=some u:=by
    rcases bc with⟨_,hf⟩|⟨hn,_⟩
    ·exact hf
    ·rw[ba]at hn;cases hn
   rcases aE with⟨_,bi,v2,_,am,ob,mk,p2,ak,be,hA⟩|⟨_,am,_⟩
   ·have e2:=am t az;rw[aB]at e2;cases e2;have a6:p2=p:=by
     rw[be]at hu;exact(aHg ak hu).symm
    subst a6;have an:=I.f1 _ _ _ _ hA aD hj;have ap:=(A.a1 _ _ _ _ hA).2.2.1;obtain⟨cs,aj⟩:=azo ai hu q;have X:=auL (g:=f) ai hu (by
     rw[an,ap];rw[ap]at aj;cases ob<;>first|rfl|cases aj) q
    exact FP (LG hE K I.rel X) λcv w' ⟨M',Z,z,hx⟩=>⟨M',f,j,I.aDO (λ_ _ h=>h) rfl S A R H C (by simp) (ac (by simp)) (ad (by simp)) z hx Z hd⟩
   ·have e2:=am t az;rw[aB]at e2;cases e2;cases hu
  |ins x=>
   obtain⟨p,k,y,rfl,⟨t,mm,kk,vv,kt,et,d,q,aR,aL,hf⟩,rfl,hI⟩:=r;obtain⟨b,bg,hA,U,-⟩:=A.i1 _ _ _ _ _ hI;have hj:=I.aEd S R C;have an:=I.f1 _ _ _ _ hA (R.bef I.down U) hj;have aq:i<L.size:=by rw[I.lsize];exact R.lt
   have aM:ig (ent T.I (λk=>L.getD k false) j' p++ [(k,y)]):=by
    have O:=A.i4 _ _ _ [] hA List.Pairwise.nil;refine ig.perm ?_ (O.sub (aJD T.I (λk=>(L.setIfInBounds i true).getD k false) j' p));exact apC (y:=(i,j',p,k,y)) A.i2 hI R.no (by show(L.setIfInBounds i true).getD i false=true;rw[fC L aq,if_pos rfl]) λk hk=>by show(L.setIfInBounds i true).getD k false=_;rw[fC L aq,if_neg hk]
   have X:iK P e o.op [.map p,k,y] f=.ok V.undef (f.put p (some (.map (ent T.I (λk=>L.getD k false) j' p++ [(k,y)])))):=by
    rw[q];show Dh P t (.map p) k y f=_;unfold Dh;rw[aR];simp only[aL,hf];unfold xQ;simp only[an,Mc,List.nil_append,auC aM.last]
   exact FP (LG hE K I.rel X) λcv w' ⟨M',Z,z,hx⟩=>⟨M',_,j,I.ins S A R H C hI hA z hx Z hd⟩
  |heavy=>
   obtain⟨hj,af⟩:=af rfl;subst hj;exact FP (LG hE K af r) λcv w' ⟨M',Z,z,hx⟩=>by
    obtain⟨f',hI⟩:=I.turn S A R H C z hx Z hd;exact⟨M',f',_,hI⟩
 ·have hy:a! o (yielded ops a.tmps)=false:=by
   rcases m with m|⟨l,m⟩
   ·have:=aek s (I.akH S R H J s m).bool;simp only[a!,J,this,amL];cases b<;>rfl
   ·obtain⟨xs,_,W⟩:=(I.akH S R H J s m).tuple;have:=aek s W;simp only[a!,J,this,amL];cases b<;>rfl
  rw[hy];simp only[Bool.false_eq_true,if_false];have a2:∀j1 p ob,(i,j1,p,ob)∉T.A:=λj1 p ob h=>by
   obtain⟨o',D,hw⟩:=(A.a1 _ _ _ _ h).2.2.2;rw[H]at D;cases D;rcases hw with hw|⟨g',b',d',aa,ab,B⟩
   ·rw[J]at hw;cases hw
   ·rw[J]at aa;cases aa;rw[s]at ab;cases ab;rcases m with m|⟨l,m⟩
    ·rw[m]at B;cases b<;>cases B
    ·rw[m]at B;cases B
  have ar:∀j p x y,(i,j,p,x,y)∉T.I:=λj1 p1 x1 y1 h=>by
   obtain⟨_,_,_,_,o',D,hw⟩:=A.i1 _ _ _ _ _ h;rw[H]at D;cases D;rcases hw with hw|⟨g',b',d',aa,ab,B⟩
   ·rw[J]at hw;cases hw
   ·rw[J]at aa;cases aa;rw[s]at ab;cases ab;rcases m with m|⟨l,m⟩
    ·rw[m]at B;cases b<;>cases B
    ·rw[m]at B;cases B
  by_cases W:c=.heavy
  ·obtain⟨hj,ag⟩:=af W;subst hj;subst W;have hB:=hh rfl;obtain⟨f',hI⟩:=I.turn S A R H C (M':=M) (w':=w) (by rw[hB];exact ag) (by rw[hB];exact .refl ag) (lH M) hd;exact⟨M,f',_,hI⟩
  ·exact⟨M,f,j,I.still S A R H C W a2 ar ae (.refl ae) (lH M) hd⟩
def left(L:Array Bool):Nat:=L.toList.countP (λb=>!b)
def avj{L:Array Bool}{i:Nat}(hi:i<L.size)(c:L.getD i false=false):left (L.setIfInBounds i true)+1=left L:=by
 unfold left;rw[Array.toList_setIfInBounds,List.countP_set (by simpa using hi)];have d:L.toList[i]'(by simpa using hi)=false:=by
  rw[Array.getElem_toList];simpa[i!,hi]using c
 have g:0<L.toList.countP (λb=>!b):=by
  rw[List.countP_pos_iff];exact⟨false,by rw[<-d];exact List.getElem_mem _,rfl⟩
 rw[d];simp only[Bool.not_false,Bool.not_true,if_true,Bool.false_eq_true,if_false];omega
def aro{L:Array Bool}(h:left L=0){i:Nat}(hi:i<L.size):L.getD i false=true:=by
 unfold left at h;rw[List.countP_eq_zero]at h;have:=h L[i] (by simp);simpa[i!,hi]using this
def any_ok(m:∀f F,e f=some F->aH P G f F)(back:∀j i,Edge ops j i->j<i)(S:Static ops (Edge ops) sb G N plan)(A:Made T ops (Edge ops) plan h₀.next)
  (h:∀i c j,(i,c,j)∈phased 0 plan->jP P e ops sb fr T i c j) {Q:Exit->Act->World->Prop}
  (g:∀L M f j a w,Inv T ops (Edge ops) plan keep fr G N Df M₀ h₀ w₀ L M f j a w->(∀i,i<ops.size->L.getD i false=true)->Q .normal a w):
  ∀(b:Nat) (L:Array Bool) (M:Mp) (f:Hp) (j:Nat) (a:Act) (w:World),left L<=b->Inv T ops (Edge ops) plan keep fr G N Df M₀ h₀ w₀ L M f j a w->wpAny P .any ops Q b L a w:=by
 intro b;induction b with
 |zero=>
  intro L M f j a w hl I;have d:∀i,i<ops.size->L.getD i false=true:=λi hi=>aro (by omega) (by rw[I.lsize];exact hi);refine⟨?_,g L M f j a w I d⟩;apply List.eq_nil_iff_forall_not_mem.2;intro i hi;have R:=ZW I.lsize hi
  have:=d i R.lt;rw[R.no]at this;cases this
 |succ b p=>
  intro L M f j a w hl I;refine⟨λn=>g L M f j a w I λi=>?_,λi hi=>?_⟩
  ·induction i using Nat.strongRecOn with
   |_ i l=>
    intro hi;cases o:L.getD i false with
    |true=>rfl
    |false=>
     exfalso;have:i∈Region.ready .any ops L:=auz I.lsize hi o λk hk=>l k (back k i hk) (by have:=back k i hk;omega);rw[n]at this;cases this
  ·have R:=ZW I.lsize hi;refine wpOp_mono ?_ (I.step m S A h R (Q:=Q));rintro a' w' ⟨M',f',j',I'⟩;have:=avj (by rw[I.lsize];exact R.lt) R.no
   exact p _ M' f' j' a' w' (by omega) I'
def bump(n:Nat)(p:Pos):Pos:=Nat.rec (motive:=λ_=>Pos) p (λ_ b=>b.succ) n
def akU(n:Nat)(p:Pos):(bump n p).nat=p.nat+n:=by
 induction n with
 |zero=>rfl
 |succ n b=>show(bump n p).succ.nat=_;rw[Pos.fA,b];omega
def vG(keep:Nat->Bool)(E:Env)(k:F->Out):List Oper->F->Out
 | [],fr=>k fr
 |o::l,fr=>(match o.dst with
  |none=>vG keep E k l fr
  |some d=>(match keep d with
   |false=>vG keep E k l fr
   |true=>(match dA d E with|some v=>vG keep E k l (fr.set (some v) (Pos.of d))|none=>.bad)))
theorem ahq{E:Env}{k:F->Out}{out:Out}(hb:out≠ .bad):∀{l:List Oper} {fr:F},vG keep E k l fr=out->
  ∃c,k c=out/\∀t v,c.get (Pos.of t)=some v->(∃o∈l,o.dst=some t/\keep t=true/\dA t E=some v)\/((∀o∈l,o.dst=some t->keep t=false)/\fr.get (Pos.of t)=some v)
 | [],fr,h=>⟨fr,h,λt v p=>.inr ⟨λo x=>(by cases x),p⟩⟩
 |o::l,fr,h=>by
  unfold vG at h;have m:(∀t,o.dst=some t->keep t=false)->vG keep E k l fr=out->∃c,k c=out/\∀t v,c.get (Pos.of t)=some v->(∃o'∈o::l,o'.dst=some t/\keep t=true/\dA t E=some v)\/((∀o'∈o::l,o'.dst=some t->keep t=false)/\fr.get (Pos.of t)=some v):=by
   intro s h;obtain⟨c,q,r⟩:=ahq hb h;refine⟨c,q,λt v p=>?_⟩;rcases r t v p with⟨o',a,b⟩|⟨a,b⟩
   ·exact .inl ⟨o',by simp[a],b⟩
   ·refine .inr ⟨λo' g hd=>?_,b⟩;rcases List.mem_cons.1 g with rfl|g
    ·exact s t hd
    ·exact a o' g hd
  split at h
  ·rename_i hd;exact m (λt ht=>by rw[hd]at ht;cases ht) h
  ·rename_i d hd;split at h
   ·rename_i hk;exact m (λt ht=>by rw[hd]at ht;cases ht;exact hk) h
   ·rename_i hk;split at h
    ·rename_i v p;obtain⟨c,q,r⟩:=ahq hb h;refine⟨c,q,λt u y=>?_⟩;rcases r t u y with⟨o',a,b⟩|⟨a,b⟩
     ·exact .inl ⟨o',by simp[a],b⟩
     ·by_cases ht:t=d
      ·subst ht;rw[T.oW]at b;cases b;exact .inl ⟨o,by simp,hd,hk,p⟩
      ·rw[T.tJ _ (λe=>ht (Pos.aeJ e))]at b;refine .inr ⟨λo' g n=>?_,b⟩;rcases List.mem_cons.1 g with rfl|g
       ·rw[hd]at n;cases n;exact absurd rfl ht
       ·exact a o' g n
    ·exact absurd h.symm hb
def aCM(P:Program)(keep:Nat->Bool)(e:FuncId->Option Fun)(ops:Array Oper)(sb:Nat->Nat->Bool)(plan:Plan)(fr:F)(h:Hp):Out:=
 xZ P e ops sb fr (λE h=>vG keep E (λfr=>.nor fr h) ops.toList fr) plan [] ⟨h.t,bump (jw plan) h.next⟩ ⟨h.t,bump (jw plan) h.next⟩ [] h.next
def aEC{op:Op}{vs:List V}{ob:Ob}{mk:Pos->V}(e0:BF P op vs=some (ob,mk)){p i:Pos}(h:mk p=.map i):i=p/\ob=.map []:=by
 cases op<;>simp only[BF]at e0<;>try (cases e0;done)
 case alloc t=>
  split at e0
  ·split at e0
   ·cases e0;cases h
   ·cases e0
  ·cases e0
 case box t x=>
  split at e0
  ·unfold akX at e0;split at e0
   ·cases e0;cases h
   ·cases e0
  ·cases e0
 case buildSlice t len ps=>
  split at e0
  ·unfold atE at e0
   (repeat' split at e0)<;>first|(cases e0;cases h;done)|(cases e0;done)
  ·unfold Iw at e0
   (repeat' split at e0)<;>first|(unfold eH at e0;split at e0<;>first|(cases e0;cases h;done)|(cases e0;done))|(cases e0;done)
 case makeSlice t l c=>
  unfold IE at e0
  (repeat' split at e0)<;>first|(cases e0;cases h;done)|(cases e0;done)
 case makeMap t r=>
  (repeat' split at e0)<;>first|(cases e0;cases h;exact⟨rfl,rfl⟩)|(cases e0;done)
 case convert s d x=>
  unfold OE at e0
  (repeat' split at e0)<;>first|(cases e0;cases h;done)|(cases e0;done)
def avq{T:Tr}(S:Static ops Ed sb G N plan)(C:∀i c j,(i,c,j)∈phased 0 plan->jP P e ops sb fr T i c j)(h2:(T.I.map (·.1)).Nodup)
  {i j:Nat} {p:Pos} {x y:V} (hI:(i,j,p,x,y)∈T.I) {a:Nat} (hp:(i,.ins a,j)∈phased 0 plan) (u:Wanted ops T.E i):
  (a,j,p,.map [])∈T.A/\Bef Ed a i:=by
 obtain⟨Y,z,oa,o,t,rest,X,D,ho,B,Z⟩:=S.insA i a j hp;refine⟨?_,z⟩;obtain⟨o',k,r⟩:=C i _ j hp;rw[ho]at k;cases k;rcases r with⟨_,vs,v,q,_,p',x',y',rfl,_,_,O⟩|⟨⟨g,b,d,hg,W,h⟩,_,_⟩
 ·have:=azP h2 hI O rfl;cases this;rw[B]at q;obtain⟨v0,us,ac,aa,_⟩:=q;cases ac;have H:dA t T.E=some (.map p):=by
   rcases aa with⟨_,hf⟩|⟨hn,_⟩
   ·exact hf
   ·rw[Z]at hn;cases hn
  obtain⟨ad,n,U⟩:=C a .alloc j Y;rw[X]at n;cases n;rcases U with⟨_,ae,v2,_,s,ob,mk,p2,Q,ab,hA⟩|⟨_,s,_⟩
  ·have e2:=s t D;rw[H]at e2;cases e2;obtain⟨rfl,rfl⟩:=aEC Q ab.symm;exact hA
  ·have e2:=s t D;rw[H]at e2;cases e2
 ·exfalso;obtain⟨o',k,u⟩:=u;rw[ho]at k;cases k;rcases u with u|⟨g',b',d',J,K,m⟩
  ·rw[hg]at u;cases u
  ·rw[hg]at J;cases J;rw[W]at K;cases K;rcases h with h|⟨l,h⟩
   ·rw[h]at m;cases b<;>cases m
   ·rw[h]at m;cases m
def dS.draw(hm:P.follows .mixedOrders=true)(hE:∀f F,e f=some F->aH P G f F){id:Nat}(ad:∀o∈ops.toList,∀c,o.op≠ .defer c)(back:∀j i,Edge ops j i->j<i)(S:Static ops (Edge ops) sb G N plan):dS P keep G N (.region id ops true) (aCM P keep e ops sb plan):=by
 intro ro n Df fr h M a w D at_;refine ama hm iw.amj ad ?_;generalize U:aCM P keep e ops sb plan fr h=out at D;obtain⟨T,t⟩:=uZ D plan [] _ _ [] [] h.next S.nodup rfl U;have A:Made T ops (Edge ops) plan h.next:=by
  refine⟨λi j p ob l=>?_,t.a2,t.a3,λj=>?_,λi j p x y hI=>?_,t.i2,t.i4⟩
  ·obtain⟨u,r,H,g4,g5⟩:=t.a1 i j p ob l;exact⟨u,H,g4,g5⟩
  ·by_cases hj:j=0
   ·subst hj;have hB:T.Bs 0=_:=t.tBase;rw[hB];refine⟨λx q=>?_,t.cn⟩;have:=t.cs x q
    rw[show([]:List Hp).length=0 from rfl]at this;rw[this,Yu λy hy hj E=>?_]
    ·cases(Hp.get ⟨h.t,bump (jw plan) h.next⟩ x) with
     |none=>rfl
     |some o=>simp[LZ]
    ·exfalso;obtain⟨i',j',p',x',y'⟩:=y;have hj:j'=0:=hj;have E:p'=x:=E;subst hj;subst E;obtain⟨u,_,_⟩:=t.i1 _ _ _ _ _ hy;rcases u with⟨_,e2,fs,e3⟩|⟨a,ob,u⟩
     ·rw[e2]at e3;cases e3
     ·exact q a ob u
   ·exact t.ct j (by simp;omega)
  ·obtain⟨_,⟨a,r⟩,H⟩:=t.i1 _ _ _ _ _ hI;obtain⟨k1,k2⟩:=avq S t.steps t.i2 hI r H;exact⟨a,r,k1,k2,H⟩
 have m:T.Bs 0=⟨h.t,bump (jw plan) h.next⟩:=t.tBase;have C:(T.Bs 0).next.nat=h.next.nat+jw plan:=by rw[m];exact akU _ _
 have hw:({w with drawn:=w.drawn+1}:World).heap=w.heap:=rfl;have ah:Rel G M (T.Bs 0) {w with drawn:=w.drawn+1}:=by
  refine(at_.rel.heap hw).sub (λi o hi=>?_) (by rw[C];omega);rw[m]at hi;exact hi
 have ai:Ext M h w M (T.Bs 0) {w with drawn:=w.drawn+1}:=by
  have q:=Ext.refl at_.rel;refine⟨q.le,by rw[C];omega,rfl,rfl,rfl,b! _,λ_ _ _=>rfl,λi o L hi=>?_,λi _ hi=>?_,λi o L hi=>?_,q.none⟩
  ·rw[m]at hi;exact q.own i o L hi
  ·rw[m];exact hi
  ·rw[m]at hi;exact q.all i o L hi
 have s:∀i,(e! ops.size false).getD i false=false:=λi=>by
  rw[c!,Array.getElem?_replicate];split<;>rfl
 have I0:Inv T ops (Edge ops) plan keep fr G N Df M h w (e! ops.size false) M (T.Bs 0) 0 a {w with drawn:=w.drawn+1}:=by
  refine⟨by simp,λi k _ hk=>?_,Nat.zero_le _,λi j' _=>?_,ah,rfl,λi j' p ob _ hl=>?_,λ_ _=>rfl,λi j' p ob l _=>?_,λi j' p ob l _=>?_,λi o d v hl=>?_,λt' v _ hv=>at_.fr t' v hv,at_.size,at_.plain,ai⟩
  ·rw[s]at hk;cases hk
  ·rw[s];simp
  ·rw[s]at hl;cases hl
  ·obtain⟨u,r,_⟩:=t.a1 i j' p ob l;refine⟨?_,by rw[C];exact r⟩;cases hg:(T.Bs 0).get p with
   |none=>rfl
   |some o'=>
    rw[m]at hg;obtain⟨L,hL,_⟩:=at_.rel.ob p o' hg;have:=at_.rel.lt_next hL;omega
  ·obtain⟨u,r,_⟩:=t.a1 i j' p ob l;exact at_.rel.fresh p u
  ·rw[s]at hl;cases hl
 refine any_ok hE back S A t.steps ?_ ops.size _ M (T.Bs 0) 0 a _ (by unfold left;exact Nat.le_trans List.countP_le_length (by simp)) I0;intro L M' f j a' w' I g;have z:=t.out
 simp only[List.length_nil,Nat.zero_add]at z;obtain⟨aj,hk,Y⟩:=ahq D z;have hj:j=bH plan:=by
  rcases Nat.lt_or_ge j (bH plan) with W|W
  ·obtain⟨i2,ag,Z⟩:=S.heavyAt j W;have:=(I.ph i2 j ag).1 (g i2 Z);omega
  ·have:=I.jle;omega
 subst hj;have O:∀{i c j'},(i,c,j')∈phased 0 plan->i<ops.size:=λ{i c j'} hp=>by
  obtain⟨o,Q,_⟩:=t.steps i c j' hp;exact(Array.getElem?_eq_some_iff.1 Q).1
 have hC:∀x,(T.Cs (bH plan)).get x=f.get x:=λx=>by
  by_cases q:∃i ob,(i,bH plan,x,ob)∈T.A
  ·obtain⟨i,ob,l⟩:=q;obtain⟨_,r,H,_⟩:=A.a1 _ _ _ _ l;rw[H,I.f1 _ _ _ _ l (g i (O r)) (b! _)];rw[F7 (b:=λ_=>true) (b':=λk=>L.getD k false) λy hy _ _=>by
    obtain⟨i2,j2,p2,x2,y2⟩:=y;obtain⟨a2,k1,_⟩:=A.i1 _ _ _ _ _ hy;exact(g i2 (O k1)).symm]
  ·rw[(A.ct _).1 x (λi ob l=>q ⟨i,ob,l⟩)];refine(I.f2 x λi j' ob l _ ak=>?_).symm;obtain⟨_,r,_⟩:=A.a1 _ _ _ _ l;have:=(sW r).1
   have ab:j'=bH plan:=by omega
   subst ab;exact q ⟨i,ob,l⟩
 have J:(T.Cs (bH plan)).next=f.next:=by rw[(A.ct _).2,I.nx]
 rw[<-hk];refine⟨M',⟨I.rel.congr hC J,λt' v hv=>?_,I.size,I.plain⟩,I.ext.congr hC J⟩;rcases Y t' v hv with⟨o,Q,hd,ac,X⟩|⟨ae,B⟩
 ·obtain⟨i,hi,aa⟩:=List.getElem_of_mem Q;have K:i<ops.size:=by simpa using hi
  have af:ops[i]?=some o:=by rw[Array.getElem?_eq_getElem K];rw[<-aa];simp
  exact⟨ac,I.e1 i o t' v (g i K) af hd X⟩
 ·refine I.e2 t' v (λi o _ Q hd=>?_) B;have W:=ae o (by have:=Array.mem_of_getElem? Q;simpa using this) hd
  have h2:=(at_.fr t' v B).1;rw[W]at h2;cases h2
end
end Go.Vm
