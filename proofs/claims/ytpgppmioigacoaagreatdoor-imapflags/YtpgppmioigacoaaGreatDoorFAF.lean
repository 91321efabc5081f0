/- Lemmas. No conditions. -/
import Derived.Test.YtpgppmioigacoaaGreatDoorFAE
import Derived.Laws.Externs
import Derived.Laws.LoneSync
import Derived.Lib.Bytealg
import Derived.Lib.MakeNoZero
import Derived.Lib.LaidCaseMet
set_option linter.all false
open Nat renaming eq_of_beq_eq_true→a!,beq→g!,ble_eq_true_of_le→h!,ble→k!,le_of_ble_eq_true→l!,blt_eq→n!,blt→o!,ne_of_beq_eq_false→u!,le_refl→y!,beq_refl→D!,zero_le→E!,testBit→F!,lor→G!,shiftLeft→L!,strongRecOn→Y!,testBit_or→Z!,lt_or_ge→d?,add_zero→e?
open Bool renaming and_eq_true→b!,or_eq_true→w!,not_eq_true'→C!
open List renaming all_eq_true→c!,mem_cons_of_mem→d!,any_eq_true→j!,nodup_append→t!,mem_append→v!,mem_range→x!,range→B!,mem_append_right→O!,mem_append_left→Q!,append_nil→X!,mem_cons→a?,map_cons→b?,mem_map→c?
open Array renaming getElem?_eq_some_iff→e!,getElem?_eq_getElem→I!,replicate→W!
open Go.MemPlace renaming row→i!,mem_row→r!,cell→T!
open Go.DataW renaming laidRun→p!,trod→z!,LaidVars_of_laidRun→H!
open Go.Extern renaming find→q!,findNext→U!
open Go.Region renaming binds→A!
open Go.Value renaming pointer→J!,int→k?
noncomputable section
open Go.RowKit Go.Lib Go.Proofs
namespace Go.Vm
section
variable{ops:Array Oper}{G N:Nat}
def aQD(ms:List Nat)(o:Oper):Nat:=o.after.toList.foldl (λs e=>match A! .any e with
 |true=>G! s (G! (L! 1 e.on) (ms.getD e.on 0))
 |false=>s) 0
def yV(ms:List Nat)(i' i:Nat):Bool:=F! (ms.getD i 0) i'
def each(ops:Array Oper)(p:Nat->Oper->Bool):Bool:=(B! ops.size).all λi=>(match ops[i]? with|some o=>p i o|none=>true)
def sF{p:Nat->Oper->Bool}(h:each ops p=true){i:Nat}{o:Oper}(a:ops[i]?=some o):p i o=true:=by
 simp only[each,c!,x!]at h;have:=h i (e!.1 a).1;rw[a]at this;exact this
def Y8(ops:Array Oper)(ms:List Nat):Bool:=each ops λi o=>g! (ms.getD i 0) (aQD ms o)&&o.after.toList.all λe=>match A! .any e with|true=>o! e.on i|false=>true
def aa1{ms:List Nat}(h:Y8 ops ms=true){j i:Nat}(a:Edge ops j i):j<i:=by
 obtain⟨o,e,c,b,hb,rfl⟩:=a;have:=sF h c;simp only[b!,c!]at this;have:=this.2 e (by simpa using b);rw[hb]at this;simpa[n!]using this
def asc(ms:List Nat):∀(l:List _root_.Go.Edge) (s j:Nat),F! (l.foldl (λs e=>match A! .any e with
 |true=>G! s (G! (L! 1 e.on) (ms.getD e.on 0))
 |false=>s) s) j=true->F! s j=true\/∃e∈l,A! .any e=true/\(e.on=j\/F! (ms.getD e.on 0) j=true)
 | [],s,j,h=>.inl h
 |e::l,s,j,h=>by
  rcases asc ms l _ j h with h|⟨d,c,hb,h⟩
  ·simp only[]at h;split at h
   ·rename_i hb;rw[show ∀a b,G! a b=a|||b from λ_ _=>rfl,show ∀a b,G! a b=a|||b from λ_ _=>rfl,Z!,Z!]at h;simp only[w!]at h;rcases h with h|h|h
    ·exact .inl h
    ·refine .inr ⟨e,by simp,hb,.inl ?_⟩;rw[show L! 1 e.on=1<<<e.on from rfl,Nat.one_shiftLeft,Nat.testBit_two_pow]at h;simpa using h
    ·exact .inr ⟨e,by simp,hb,.inr h⟩
   ·exact .inl h
  ·exact .inr ⟨d,by simp[c],hb,h⟩
def kP{ms:List Nat}(h:Y8 ops ms=true):∀{i j:Nat},i<ops.size->yV ms j i=true->Bef (Edge ops) j i:=by
 intro i;induction i using Y! with
 |_ i l=>
  intro j hi d;have g:=I! hi;have f:=sF h g;simp only[b!]at f;unfold yV at d;rw[a! f.1]at d;rcases asc ms _ 0 j d with a|⟨e,k,hb,a⟩
  ·simp at a
  ·have b:Edge ops e.on i:=⟨_,e,g,by simpa using k,hb,rfl⟩
   have c:=aa1 h b;rcases a with a|a
   ·subst a;exact .one b
   ·exact .step (l e.on c (by omega) a) b
def oq:Cls->Bool
 | .heavy=>true
 |_=>false
def nodupB:List Nat->Bool
 | []=>true
 |x::l=>l.all (λy=>!Nat.beq x y)&&nodupB l
def nV(sb:Nat->Nat->Bool)(x y:Nat×Cls×Nat):Bool:=match oq y.2.1 with
 |false=>true
 |true=>(match x.2.1 with
  | .heavy=>(match o! x.2.2 y.2.2 with
   |true=>sb x.1 y.1
   |false=>(match g! x.2.2 y.2.2 with|true=>g! x.1 y.1|false=>true))
  | .alloc=>(match k! x.2.2 y.2.2 with|true=>sb x.1 y.1|false=>true)
  | .read n=>(match k! x.2.2 y.2.2 with
   |true=>sb x.1 y.1
   |false=>(match o! (y.2.2+n) x.2.2 with|true=>sb y.1 x.1|false=>true))
  | .own _=>(match k! x.2.2 y.2.2 with|true=>sb x.1 y.1|false=>true)
  | .ins _=>(match k! x.2.2 y.2.2 with|true=>sb x.1 y.1|false=>true)
  | .pure=>true)
def ownB(ops:Array Oper)(sb:Nat->Nat->Bool)(pl:List (Nat×Cls×Nat))(x:Nat×Cls×Nat):Bool:=match x.2.1 with
 | .own a=>(match ops[a]?,ops[x.1]? with
  |some oa,some o=>(match oa.dst,o.op.operands.toList with
   |some t,[.tmp u]=>g! t u&&(IX ops sb x.1 t&&(sb a x.1&&pl.any λy=>(match y.2.1 with| .alloc=>g! y.1 a&&g! y.2.2 x.2.2|_=>false)))
   |_,_=>false)
  |_,_=>false)
 |_=>true
def aDu(ops:Array Oper)(sb:Nat->Nat->Bool)(pl:List (Nat×Cls×Nat))(x:Nat×Cls×Nat):Bool:=match x.2.1 with
 | .ins a=>(match ops[a]?,ops[x.1]? with
  |some oa,some o=>(match oa.dst,o.op.operands.toList with
   |some t,.tmp u::_=>g! t u&&(IX ops sb x.1 t&&(sb a x.1&&pl.any λy=>(match y.2.1 with| .alloc=>g! y.1 a&&g! y.2.2 x.2.2|_=>false)))
   |_,_=>false)
  |_,_=>false)
 |_=>true
def aip(o:Oper)(t:Nat):Bool:=match o.dst with|some d=>g! d t|none=>false
def afw(ops:Array Oper)(ms:List Nat)(G N:Nat)(plan:Plan):Bool:=
 Y8 ops ms&&(nodupB (plan.map (·.1))&&((B! ops.size).all (λi=>(plan.map (·.1)).any (g! i))&&(plan.all (λx=>o! x.1 ops.size)&&
  ((phased 0 plan).all (λx=>(phased 0 plan).all (nV (yV ms) x))&&
  (each ops (λi o=>match o.guard with|some (g,_)=>yV ms g i|none=>true)&&
  (each ops (λi o=>match o.dst with|some t=>each ops (λi' o'=>match aip o' t with|true=>g! i i'|false=>true)|none=>true)&&
  (each ops (λi o=>o.op.operands.toList.all λx=>match x with
   | .tmp t=>(match IX ops (yV ms) i t with
    |true=>true
    |false=>each ops λi' o'=>(match aip o' t with|true=>g! i i'||yV ms i i'|false=>true))
   |_=>true)&&
  (ops.toList.all (qL G N)&&((phased 0 plan).all (ownB ops (yV ms) (phased 0 plan))&&(phased 0 plan).all (aDu ops (yV ms) (phased 0 plan)))))))))))
def afG:∀{l:List Nat},nodupB l=true->l.Nodup
 | [],_=>List.nodup_nil
 |x::l,h=>by
  simp only[nodupB,b!,c!,C!]at h;refine List.nodup_cons.2 ⟨λa=>?_,afG h.2⟩;have:=h.1 x a
  exact absurd rfl (u! this)
def Ak{j:Nat}:∀{j₀:Nat} {l:Plan},j₀<=j->j<j₀+bG l->∃i,(i,.heavy,j)∈phased j₀ l
 |j₀,[],d,b=>by simp[bG]at b;omega
 |j₀,(i,c)::l,d,b=>by
  cases c with
  |heavy=>
   by_cases e:j=j₀
   ·subst e;exact⟨i,by simp[phased]⟩
   ·obtain⟨i',h⟩:=Ak (j:=j) (j₀:=j₀+1) (l:=l) (by omega) (by simp only[bG]at b;omega);exact⟨i',d! _ h⟩
  |pure=>
   obtain⟨i',h⟩:=Ak (j:=j) (j₀:=j₀) (l:=l) d (by simpa only[bG]using b);exact⟨i',d! _ h⟩
  |read n=>
   obtain⟨i',h⟩:=Ak (j:=j) (j₀:=j₀) (l:=l) d (by simpa only[bG]using b);exact⟨i',d! _ h⟩
  |alloc=>
   obtain⟨i',h⟩:=Ak (j:=j) (j₀:=j₀) (l:=l) d (by simpa only[bG]using b);exact⟨i',d! _ h⟩
  |own a=>
   obtain⟨i',h⟩:=Ak (j:=j) (j₀:=j₀) (l:=l) d (by simpa only[bG]using b);exact⟨i',d! _ h⟩
  |ins a=>
   obtain⟨i',h⟩:=Ak (j:=j) (j₀:=j₀) (l:=l) d (by simpa only[bG]using b);exact⟨i',d! _ h⟩
def oJ{i:Nat}:∀{j₀:Nat} {l:Plan},i∈l.map (·.1)->∃c j,(i,c,j)∈phased j₀ l
 |j₀,(i',c)::l,h=>by
  rw[b?]at h;rcases a?.1 h with d|d
  ·cases d;exact⟨c,j₀,by simp[phased]⟩
  ·cases c with
   |heavy=>obtain⟨b,j,h⟩:=oJ (j₀:=j₀+1) d;exact⟨b,j,d! _ h⟩
   |pure=>obtain⟨b,j,h⟩:=oJ (j₀:=j₀) d;exact⟨b,j,d! _ h⟩
   |read n=>obtain⟨b,j,h⟩:=oJ (j₀:=j₀) d;exact⟨b,j,d! _ h⟩
   |alloc=>obtain⟨b,j,h⟩:=oJ (j₀:=j₀) d;exact⟨b,j,d! _ h⟩
   |own a=>obtain⟨b,j,h⟩:=oJ (j₀:=j₀) d;exact⟨b,j,d! _ h⟩
   |ins a=>obtain⟨b,j,h⟩:=oJ (j₀:=j₀) d;exact⟨b,j,d! _ h⟩
def abj{o:Oper}{t:Nat}(h:o.dst=some t):aip o t=true:=by simp[aip,h]
def aEQ{ms:List Nat}{plan:Plan}(h:afw ops ms G N plan=true):Static ops (Edge ops) (yV ms) G N plan:=by
 simp only[afw,b!]at h;obtain⟨r,O,P,Q,S,U,W,X,Y,H,I⟩:=h;have f:∀{i c j},(i,c,j)∈phased 0 plan->i<ops.size:=λ{i c j} z=>by
  obtain⟨⟨i',c'⟩,L,rfl⟩:=c?.1 (xA z);have:=c!.1 Q _ L;simpa[n!]using this
 have pr:∀x y,x∈phased 0 plan->y∈phased 0 plan->nV (yV ms) x y=true:=λx y M D=>
  c!.1 (c!.1 S x M) y D
 refine⟨λi hi=>?_,afG O,λj hj=>?_,λi j i' j' a b hl=>?_,λi i' j a b=>?_,λi j i' j' a b hl=>?_,λi n j i' j' a b hl=>?_,λi n j i' j' a b hl=>?_,λi n j i' j' a b hl=>?_,λi x j z=>?_,λi n j i' j' a b hl=>?_,λi x j z=>?_,
  λi o g b q Z=>?_,λi i' o o' t q m hd J=>?_,λi t hi p=>?_,λi o t q M p i' o' m hd=>?_,λo q=>c!.1 Y o q⟩
 ·have:=c!.1 P i (x!.2 hi);rw[j!]at this;obtain⟨k,hk,hb⟩:=this;rw[a! hb];exact oJ hk
 ·obtain⟨i,hi⟩:=Ak (j₀:=0) (l:=plan) (E! j) (by omega);exact⟨i,hi,f hi⟩
 ·have:=pr _ _ a b;simp only[nV,oq,show o! j j'=true from by simpa[n!]using hl]at this;exact kP r (f b) this
 ·have:=pr _ _ a b;have K:o! j j=false:=by
   cases hb:o! j j with
   |false=>rfl
   |true=>have:=l! hb;omega
  simp only[nV,oq,K,show g! j j=true from D! j]at this;exact a! this
 ·have:=pr _ _ a b;simp only[nV,oq,show k! j j'=true from h! hl]at this;exact kP r (f b) this
 ·have:=pr _ _ a b;simp only[nV,oq,show k! j j'=true from h! hl]at this;exact kP r (f b) this
 ·have:=pr _ _ a b;have hn:k! j j'=false:=by
   cases hb:k! j j' with
   |false=>rfl
   |true=>have:=l! hb;omega
  simp only[nV,oq,hn,show o! (j'+n) j=true from by simpa[n!]using hl]at this;exact kP r (f a) this
 ·have:=pr _ _ a b;simp only[nV,oq,show k! j j'=true from h! hl]at this;exact kP r (f b) this
 ·have:=c!.1 H _ z;unfold ownB at this;simp only[]at this;split at this
  ·rename_i oa o B q;split at this
   ·rename_i t u C s;simp only[b!]at this;obtain⟨e1,e2,E,e⟩:=this;have e1:=a! e1;subst e1;rw[j!]at e;obtain⟨⟨y1,y2,y3⟩,D,e⟩:=e;simp only[]at e;split at e
    ·simp only[b!]at e;have v:=a! e.1;have w:=a! e.2;subst v;subst w;exact⟨D,kP r (f z) E,oa,o,t,B,C,q,s,e2⟩
    ·cases e
   ·cases this
  ·cases this
 ·have:=pr _ _ a b;simp only[nV,oq,show k! j j'=true from h! hl]at this;exact kP r (f b) this
 ·have:=c!.1 I _ z;unfold aDu at this;simp only[]at this;split at this
  ·rename_i oa o B q;split at this
   ·rename_i t u rest C s;simp only[b!]at this;obtain⟨e1,e2,E,e⟩:=this;have e1:=a! e1;subst e1;rw[j!]at e;obtain⟨⟨y1,y2,y3⟩,D,e⟩:=e;simp only[]at e;split at e
    ·simp only[b!]at e;have v:=a! e.1;have w:=a! e.2;subst v;subst w;exact⟨D,kP r (f z) E,oa,o,t,rest,B,C,q,s,e2⟩
    ·cases e
   ·cases this
  ·cases this
 ·have:=sF U q;simp only[Z]at this;exact kP r (e!.1 q).1 this
 ·have:=sF W q;simp only[hd]at this;have:=sF this m;simp only[abj J]at this;exact a! this
 ·unfold IX at p;rw[j!]at p;obtain⟨i',aa,p⟩:=p;split at p
  ·rename_i o' m;split at p
   ·rename_i d hd;split at p
    ·rename_i hb;exact⟨i',o',m,by rw[hd,a! hb],kP r hi p⟩
    ·cases p
   ·cases p
  ·cases p
 ·have:=sF X q;have:=c!.1 this _ M;simp only[p]at this;have:=sF this m;simp only[abj hd,w!]at this;rcases this with h|h
  ·exact .inl (a! h)
  ·exact .inr (kP r (e!.1 m).1 h)
def ayQ{ms:List Nat}{plan:Plan}(h:afw ops ms G N plan=true):∀j i,Edge ops j i->j<i:=by
 unfold afw at h;rw[b!]at h;exact λj i a=>aa1 h.1 a
end
abbrev bY:=Nat->Option (List Nat×Plan)
section
variable{ops:Array Oper}{G N:Nat}
def ah2(ops:Array Oper)(sb a:Nat->Nat->Bool)(G N:Nat)(plan:Plan):Bool:=
 (nodupB (plan.map (·.1))&&((B! ops.size).all (λi=>(plan.map (·.1)).any (g! i))&&(plan.all (λx=>o! x.1 ops.size)&&
  ((phased 0 plan).all (λx=>(phased 0 plan).all (nV a x))&&
  (each ops (λi o=>match o.guard with|some (g,_)=>sb g i|none=>true)&&
  (each ops (λi o=>match o.dst with|some t=>each ops (λi' o'=>match aip o' t with|true=>g! i i'|false=>true)|none=>true)&&
  (each ops (λi o=>o.op.operands.toList.all λx=>match x with
   | .tmp t=>(match IX ops sb i t with
    |true=>true
    |false=>each ops λi' o'=>(match aip o' t with|true=>g! i i'||sb i i'|false=>true))
   |_=>true)&&
  (ops.toList.all (qL G N)&&((phased 0 plan).all (ownB ops sb (phased 0 plan))&&(phased 0 plan).all (aDu ops sb (phased 0 plan)))))))))))
def arU{Ed:Nat->Nat->Prop}{sb E:Nat->Nat->Bool}{plan:Plan}(v:∀{i j},i<ops.size->sb j i=true->Bef Ed j i)(q:∀{i j},i<ops.size->E j i=true->Bef Ed j i)
  (h:ah2 ops sb E G N plan=true):Static ops Ed sb G N plan:=by
 simp only[ah2,b!]at h;obtain⟨Q,S,U,W,X,Y,Z,h9,J,K⟩:=h;have f:∀{i c j},(i,c,j)∈phased 0 plan->i<ops.size:=λ{i c j} B=>by
  obtain⟨⟨i',c'⟩,O,rfl⟩:=c?.1 (xA B);have:=c!.1 U _ O;simpa[n!]using this
 have pr:∀x y,x∈phased 0 plan->y∈phased 0 plan->nV E x y=true:=λx y P H=>
  c!.1 (c!.1 W x P) y H
 refine⟨λi hi=>?_,afG Q,λj hj=>?_,λi j i' j' a b hl=>?_,λi i' j a b=>?_,λi j i' j' a b hl=>?_,λi n j i' j' a b hl=>?_,λi n j i' j' a b hl=>?_,λi n j i' j' a b hl=>?_,λi x j B=>?_,λi n j i' j' a b hl=>?_,λi x j B=>?_,
  λi o g b r hg=>?_,λi i' o o' t r m hd L=>?_,λi t hi p=>?_,λi o t r P p i' o' m hd=>?_,λo r=>c!.1 h9 o r⟩
 ·have:=c!.1 S i (x!.2 hi);rw[j!]at this;obtain⟨k,hk,hb⟩:=this;rw[a! hb];exact oJ hk
 ·obtain⟨i,hi⟩:=Ak (j₀:=0) (l:=plan) (E! j) (by omega);exact⟨i,hi,f hi⟩
 ·have:=pr _ _ a b;simp only[nV,oq,show o! j j'=true from by simpa[n!]using hl]at this;exact q (f b) this
 ·have:=pr _ _ a b;have M:o! j j=false:=by
   cases hb:o! j j with
   |false=>rfl
   |true=>have:=l! hb;omega
  simp only[nV,oq,M,show g! j j=true from D! j]at this;exact a! this
 ·have:=pr _ _ a b;simp only[nV,oq,show k! j j'=true from h! hl]at this;exact q (f b) this
 ·have:=pr _ _ a b;simp only[nV,oq,show k! j j'=true from h! hl]at this;exact q (f b) this
 ·have:=pr _ _ a b;have hn:k! j j'=false:=by
   cases hb:k! j j' with
   |false=>rfl
   |true=>have:=l! hb;omega
  simp only[nV,oq,hn,show o! (j'+n) j=true from by simpa[n!]using hl]at this;exact q (f a) this
 ·have:=pr _ _ a b;simp only[nV,oq,show k! j j'=true from h! hl]at this;exact q (f b) this
 ·have:=c!.1 J _ B;unfold ownB at this;simp only[]at this;split at this
  ·rename_i oa o C r;split at this
   ·rename_i t u D s;simp only[b!]at this;obtain⟨e1,e2,I,e⟩:=this;have e1:=a! e1;subst e1;rw[j!]at e;obtain⟨⟨y1,y2,y3⟩,H,e⟩:=e;simp only[]at e;split at e
    ·simp only[b!]at e;have w:=a! e.1;have z:=a! e.2;subst w;subst z;exact⟨H,v (f B) I,oa,o,t,C,D,r,s,e2⟩
    ·cases e
   ·cases this
  ·cases this
 ·have:=pr _ _ a b;simp only[nV,oq,show k! j j'=true from h! hl]at this;exact q (f b) this
 ·have:=c!.1 K _ B;unfold aDu at this;simp only[]at this;split at this
  ·rename_i oa o C r;split at this
   ·rename_i t u rest D s;simp only[b!]at this;obtain⟨e1,e2,I,e⟩:=this;have e1:=a! e1;subst e1;rw[j!]at e;obtain⟨⟨y1,y2,y3⟩,H,e⟩:=e;simp only[]at e;split at e
    ·simp only[b!]at e;have w:=a! e.1;have z:=a! e.2;subst w;subst z;exact⟨H,v (f B) I,oa,o,t,rest,C,D,r,s,e2⟩
    ·cases e
   ·cases this
  ·cases this
 ·have:=sF X r;simp only[hg]at this;exact v (e!.1 r).1 this
 ·have:=sF Y r;simp only[hd]at this;have:=sF this m;simp only[abj L]at this;exact a! this
 ·unfold IX at p;rw[j!]at p;obtain⟨i',aa,p⟩:=p;split at p
  ·rename_i o' m;split at p
   ·rename_i d hd;split at p
    ·rename_i hb;exact⟨i',o',m,by rw[hd,a! hb],v hi p⟩
    ·cases p
   ·cases p
  ·cases p
 ·have:=sF Z r;have:=c!.1 this _ P;simp only[p]at this;have:=sF this m;simp only[abj hd,w!]at this;rcases this with h|h
  ·exact .inl (a! h)
  ·exact .inr (v (e!.1 m).1 h)
end
section
variable{P:Program}{e:FuncId->Option Fun}{Ed:Nat->Nat->Prop}{ops:Array Oper}{sb:Nat->Nat->Bool}{fr:F}{keep:Nat->Bool}{G N:Nat}{Df:List Deferred}
variable{T:Tr}{plan:Plan}{M:Mp}{h f:Hp}{w:World}{L:Array Bool}{j:Nat}{a:Act}{i:Nat}{out:Out}{k:Env->Hp->Out}
def aFf(S:Static ops Ed sb G N plan)(t:Told P e ops sb fr k plan [] ⟨h.t,bump (jF plan) h.next⟩ ⟨h.t,bump (jF plan) h.next⟩ [] [] h.next out T):Made T ops Ed plan h.next:=by
 refine⟨λi j p ob s=>?_,t.a2,t.a3,λj=>?_,λi j p x y m=>?_,t.i2,t.i4⟩
 ·obtain⟨c,g,d,q,r⟩:=t.a1 i j p ob s;exact⟨c,d,q,r⟩
 ·by_cases hj:j=0
  ·subst hj;have u:T.Bs 0=_:=t.tBase;rw[u];refine⟨λx n=>?_,t.cn⟩;have:=t.cs x n
   rw[show([]:List Hp).length=0 from rfl]at this;rw[this,Zf λy v hj b=>?_]
   ·cases(Hp.get ⟨h.t,bump (jF plan) h.next⟩ x) with
    |none=>rfl
    |some o=>simp[MV]
   ·exfalso;obtain⟨i',j',C,E,H⟩:=y;have hj:j'=0:=hj;have b:C=x:=b;subst hj;subst b;obtain⟨c,_,_⟩:=t.i1 _ _ _ _ _ v;rcases c with⟨_,e2,D,l⟩|⟨a,ob,c⟩
    ·rw[e2]at l;cases l
    ·exact n a ob c
  ·exact t.ct j (by simp;omega)
 ·obtain⟨_,⟨a,g⟩,d⟩:=t.i1 _ _ _ _ _ m;obtain⟨z,B⟩:=av1 S t.steps t.i2 m g d;exact⟨a,g,z,B,d⟩
def aDC(S:Static ops Ed sb G N plan)(t:Told P e ops sb fr k plan [] ⟨h.t,bump (jF plan) h.next⟩ ⟨h.t,bump (jF plan) h.next⟩ [] [] h.next out T)(at_:At keep G N Df M fr h a w):
  Inv T ops Ed plan keep fr G N Df M h w (W! ops.size false) M (T.Bs 0) 0 a {w with drawn:=w.drawn+1}:=by
 have b:T.Bs 0=⟨h.t,bump (jF plan) h.next⟩:=t.tBase;have g:(T.Bs 0).next.nat=h.next.nat+jF plan:=by rw[b];exact alK _ _
 have B:({w with drawn:=w.drawn+1}:World).heap=w.heap:=rfl;have n:Rel G M (T.Bs 0) {w with drawn:=w.drawn+1}:=by
  refine(at_.rel.heap B).sub (λi o hi=>?_) (by rw[g];omega);rw[b]at hi;exact hi
 have q:Ext M h w M (T.Bs 0) {w with drawn:=w.drawn+1}:=by
  have l:=Ext.refl at_.rel;refine⟨l.le,by rw[g];omega,rfl,rfl,rfl,y! _,λ_ _ _=>rfl,λi o L hi=>?_,λi _ hi=>?_,λi o L hi=>?_,l.none⟩
  ·rw[b]at hi;exact l.own i o L hi
  ·rw[b];exact hi
  ·rw[b]at hi;exact l.all i o L hi
 have c:∀i,(W! ops.size false).getD i false=false:=λi=>by
  rw[Array.getD_eq_getD_getElem?,Array.getElem?_replicate];split<;>rfl
 refine⟨by simp,λi k _ x=>?_,E! _,λi j' _=>?_,n,rfl,λi j' p ob _ hl=>?_,λ_ _=>rfl,λi j' p ob m _=>?_,λi j' p ob m _=>?_,λi o d v hl=>?_,λt' v _ z=>at_.fr t' v z,at_.size,at_.plain,q⟩
 ·rw[c]at x;cases x
 ·rw[c];simp
 ·rw[c]at hl;cases hl
 ·obtain⟨r,s,_⟩:=t.a1 i j' p ob m;refine⟨?_,by rw[g];exact s⟩;cases u:(T.Bs 0).get p with
  |none=>rfl
  |some o'=>
   rw[b]at u;obtain⟨L,y,_⟩:=at_.rel.ob p o' u;have:=at_.rel.lt_next y;omega
 ·obtain⟨r,s,_⟩:=t.a1 i j' p ob m;exact at_.rel.fresh p r
 ·rw[c]at hl;cases hl
def awk(S:Static ops Ed sb G N plan)(A:Made T ops Ed plan h.next)(U:∀i c j,(i,c,j)∈phased 0 plan->jV P e ops sb fr T i c j)(at_:At keep G N Df M fr h a w)(J:out≠ .bad)
  (n:uS keep T.E (λfr=>.nor fr (T.Cs (bG plan))) ops.toList fr=out):
  ∀L M' f j a' w',Inv T ops Ed plan keep fr G N Df M h w L M' f j a' w'->(∀i,i<ops.size->L.getD i false=true)->jq keep G N Df M h w out .normal a' w':=by
 intro L M' f j a' w' I d;obtain⟨Z,hk,z⟩:=aij J n;have hj:j=bG plan:=by
  rcases d? j (bG plan) with s|s
  ·obtain⟨i2,Q,B⟩:=S.heavyAt j s;have:=(I.ph i2 j Q).1 (d i2 B);omega
  ·have:=I.jle;omega
 subst hj;have q:∀{i c j'},(i,c,j')∈phased 0 plan->i<ops.size:=λ{i c j'} hp=>by
  obtain⟨o,r,_⟩:=U i c j' hp;exact(e!.1 r).1
 have Y:∀x,(T.Cs (bG plan)).get x=f.get x:=λx=>by
  by_cases W:∃i ob,(i,bG plan,x,ob)∈T.A
  ·obtain⟨i,ob,l⟩:=W;obtain⟨_,t,g3,_⟩:=A.a1 _ _ _ _ l;rw[g3,I.f1 _ _ _ _ l (d i (q t)) (y! _)];rw[Gu (b:=λ_=>true) (b':=λk=>L.getD k false) λy hy _ _=>by
    obtain⟨i2,j2,p2,x2,y2⟩:=y;obtain⟨a2,k1,_⟩:=A.i1 _ _ _ _ _ hy;exact(d i2 (q k1)).symm]
  ·rw[(A.ct _).1 x (λi ob l=>W ⟨i,ob,l⟩)];refine(I.f2 x λi j' ob l _ aa=>?_).symm;obtain⟨_,t,_⟩:=A.a1 _ _ _ _ l;have:=(sK t).1
   have D:j'=bG plan:=by omega
   subst D;exact W ⟨i,ob,l⟩
 have m:(T.Cs (bG plan)).next=f.next:=by rw[(A.ct _).2,I.nx]
 rw[<-hk];refine⟨M',⟨I.rel.congr Y m,λt' v hv=>?_,I.size,I.plain⟩,I.ext.congr Y m⟩;rcases z t' v hv with⟨o,r,hd,H,u⟩|⟨K,g⟩
 ·obtain⟨i,hi,C⟩:=List.getElem_of_mem r;have p:i<ops.size:=by simpa using hi
  have O:ops[i]?=some o:=by rw[I! p];rw[<-C];simp
  exact⟨H,I.e1 i o t' v (d i p) O hd u⟩
 ·refine I.e2 t' v (λi o _ r hd=>?_) g;have s:=K o (by have:=Array.mem_of_getElem? r;simpa using this) hd
  have X:=(at_.fr t' v g).1;rw[s]at X;cases X
end
section
variable{P:Program}{e:FuncId->Option Fun}{Ed m:Nat->Nat->Prop}{ops:Array Oper}{sb:Nat->Nat->Bool}{fr:F}{keep:Nat->Bool}{G N:Nat}{Df:List Deferred}
variable{T:Tr}{plan pre:Plan}{M₀ M:Mp}{h h₀ f:Hp}{w₀ w:World}{L:Array Bool}{j:Nat}{a:Act}{i x y:Nat}{k:Env->Hp->Out}
def EdP(ops:Array Oper)(x y:Nat):Nat->Nat->Prop:=λj i=>Edge ops j i\/(j=x/\i=y)
def sbP(sb:Nat->Nat->Bool)(x y:Nat)(j i:Nat):Bool:=sb j i||(g! j x&&g! i y)
def Bef.mono(b:∀j i,Ed j i->m j i){j i:Nat}(h:Bef Ed j i):Bef m j i:=by
 induction h with
 |one h=>exact .one (b _ _ h)
 |step _ h c=>exact .step c (b _ _ h)
def atr(l r:Plan):∀j₀,phased j₀ (l++r)=phased j₀ l++phased (j₀+bG l) r:=by
 induction l with
 |nil=>intro j₀;simp[phased,bG]
 |cons z l b=>
  obtain⟨i,c⟩:=z;intro j₀;cases c<;>simp[phased,bG,b,Nat.add_assoc,Nat.add_comm 1]
def aqo(l r:Plan):bG (l++r)=bG l+bG r:=by
 induction l with
 |nil=>simp[bG]
 |cons z l b=>
  obtain⟨i,c⟩:=z;cases c<;>simp[bG,b]<;>omega
def pl2(pre:Plan)(x y:Nat):Plan:=pre++ [(x,.heavy),(y,.heavy)]
def vW{c:Cls}:(i,c,j)∈phased 0 (pl2 pre x y)↔(i,c,j)∈phased 0 pre\/(i=x/\c=.heavy/\j=bG pre)\/(i=y/\c=.heavy/\j=bG pre+1):=by
 unfold pl2;rw[atr];simp[phased]
def av4:bG (pl2 pre x y)=bG pre+2:=by unfold pl2;rw[aqo];simp[bG]
def anv{α:Type}{g:Hp}{p:Pos}{wr:Wr}{cs:List V}(b:(g.get p).bind Ob.row=some (wr,cs))(k:Wr->List V->R α):dV g p k=k wr cs:=by
 unfold dV;cases c:g.get p with
 |none=>rw[c]at b;cases b
 |some o=>
  rw[c]at b;cases o with
  |cells w l=>cases b;rfl
  |bytes l=>cases b;rfl
  |_=>cases b
def arT{sz:Nat}{a z:V}{h h':Hp}{r:V}(s:aS sz a z h=.ok r h'):∃p o ob,a=.ptr p o/\h'=h.put p (some ob)/\∀g:Hp,g.get p=h.get p->aS sz a z g=.ok r (g.put p (some ob)):=by
 unfold aS at s;obtain⟨p,o,rfl,e1⟩:=l7 s;obtain⟨wr,cs,u,e2⟩:=gQ e1;split at e2
 ·rename_i t v hn hb;split at e2
  ·rename_i d n;cases e2;refine⟨p,o,_,rfl,rfl,λg c=>?_⟩;have q:(g.get p).bind Ob.row=some (.rw t v,cs):=by rw[c];exact u
   show dV g p _=_;rw[anv q];simp only[hn,hb,n]
  ·cases e2
 ·rename_i hn hb;unfold WO at e2;split at e2
  ·rename_i b l;split at e2
   ·rename_i cs0;split at e2
    ·rename_i d n;cases e2;refine⟨p,o,_,rfl,rfl,λg c=>?_⟩;have q:(g.get p).bind Ob.row=some (.ro,cs):=by rw[c];exact u
     show dV g p _=_;rw[anv q];simp only[hn,hb];unfold WO;rw[c,l];simp only[n]
    ·cases e2
   ·cases e2
  ·cases e2
 ·cases e2
def aCN{D s2:Nat}{a1 E a2 H:V}{h l c n:Hp}{r1 r2:V}(e1:aS D a1 E h=.ok r1 l)(t:∀p,c.get p=l.get p)(hn:c.next=l.next)(e2:aS s2 a2 H c=.ok r2 n)
  {v d:Pos} {Q S:Nat} (r:a1=.ptr v Q) (s:a2=.ptr d S) (b:v≠d):
  ∃C g,aS s2 a2 H h=.ok r2 C/\aS D a1 E C=.ok r1 g/\(∀p,g.get p=n.get p)/\g.next=n.next:=by
 obtain⟨p,o,U,z,rfl,I⟩:=arT e1;obtain⟨q,o',u,B,rfl,J⟩:=arT e2;rw[r]at z;cases z;rw[s]at B;cases B;have K:=J h (by rw[t,Hp.dA _ (Ne.symm b)]);have O:=I (h.put d (some u)) (by rw[Hp.dA _ b]);refine⟨_,_,K,O,λx=>?_,?_⟩
 ·by_cases e1:x=v
  ·subst e1;rw[Hp.dU,Hp.dA _ b,t,Hp.dU]
  ·rw[Hp.dA _ e1];by_cases e2:x=d
   ·subst e2;rw[Hp.dU,Hp.dU]
   ·rw[Hp.dA _ e2,Hp.dA _ e2,t,Hp.dA _ e1]
 ·show h.next=c.next;rw[hn];rfl
def uX(T:Tr)(k:Nat)(b1 b2:Hp):Tr:=
 {T with Bs:=λj=>if j=k+1 then b1 else if j=k+2 then b2 else T.Bs j,Cs:=λj=>if j=k+1 then b1 else if j=k+2 then b2 else T.Cs j}
def Zl{k:Nat}{b1 b2:Hp}(hj:j<=k):(uX T k b1 b2).Bs j=T.Bs j:=by
 show(if j=k+1 then b1 else if j=k+2 then b2 else T.Bs j)=_;rw[if_neg (by omega),if_neg (by omega)]
def afX{k:Nat}{b1 b2:Hp}(hj:j<=k):(uX T k b1 b2).Cs j=T.Cs j:=by
 show(if j=k+1 then b1 else if j=k+2 then b2 else T.Cs j)=_;rw[if_neg (by omega),if_neg (by omega)]
def aA5{k:Nat}{b1 b2:Hp}:(uX T k b1 b2).Bs (k+1)=b1:=by simp[uX]
def aA3{k:Nat}{b1 b2:Hp}:(uX T k b1 b2).Cs (k+1)=b1:=by simp[uX]
def aA4{k:Nat}{b1 b2:Hp}:(uX T k b1 b2).Bs (k+2)=b2:=by simp[uX]
def aA2{k:Nat}{b1 b2:Hp}:(uX T k b1 b2).Cs (k+2)=b2:=by simp[uX]
def jV.alt{k:Nat}{b1 b2:Hp}{c:Cls}(hj:j<=k)(hh:c=.heavy->j<k)(s:jV P e ops sb fr T i c j):jV P e ops sb fr (uX T k b1 b2) i c j:=by
 obtain⟨o,r,t⟩:=s;refine⟨o,r,?_⟩;rcases t with⟨n,vs,v,g,l,d⟩|⟨n,g,l⟩
 ·refine .inl ⟨n,vs,v,g,l,?_⟩;cases c with
  |pure=>exact d
  |read cnt=>exact⟨d.1,λj' a b=>by rw[Zl (by omega)];exact d.2 j' a b⟩
  |alloc=>exact d
  |heavy=>
   have:=hh rfl;show iQ P e o.op vs _=_;rw[afX hj,Zl (by omega)];exact d
  |own x=>obtain⟨u,p,h',z,B,C,D⟩:=d;exact⟨u,p,h',z,B,C,by rw[afX hj];exact D⟩
  |ins x=>exact d
 ·refine .inr ⟨n,g,λq=>?_⟩;have:=hh q
  rw[afX hj,Zl (by omega)];exact l q
def aJy(ops:Array Oper)(x:Nat):Prop:=∃o t b c,ops[x]?=some o/\o.guard=none/\o.dst=none/\o.op=.store t b c
def aCa{o:Oper}{t:TypeId}{B J:Operand}(H:ops[x]?=some o)(D:o.guard=none)(hd:o.dst=none)(q:o.op=.store t B J)(s:jV P e ops sb fr T x .heavy j):
  ∃ti u z v,P.info? t=some ti/\UQ ops sb fr T.E x o.op.operands.toList [u,z]/\aS ti.size u z (T.Cs j)=.ok v (T.Bs (j+1)):=by
 obtain⟨o',l,I⟩:=s;rw[H]at l;cases l;rcases I with⟨_,vs,v,C,_,n⟩|⟨⟨g,b,d,c,_⟩,_⟩
 ·have n:iQ P e o.op vs (T.Cs j)=.ok v (T.Bs (j+1)):=n;rw[q]at n;obtain⟨u,z,rfl,p⟩:=Wx n;split at p
  ·rename_i ti r;exact⟨ti,u,z,v,r,C,p⟩
  ·cases p
 ·rw[D]at c;cases c
def aKh{o:Oper}{t:TypeId}{l s:Operand}{ti:TypeInfo}{u z v:V}(r:ops[x]?=some o)(q:o.guard=none)(hd:o.dst=none)(b:o.op=.store t l s)(c:P.info? t=some ti)
  (n:UQ ops sb fr T.E x o.op.operands.toList [u,z]) (p:aS ti.size u z (T.Cs j)=.ok v (T.Bs (j+1))):jV P e ops sb fr T x .heavy j:=by
 refine⟨o,r,.inl ⟨.inl q,[u,z],v,n,λd g=>(by rw[hd]at g;cases g),?_⟩⟩;show iQ P e o.op [u,z] (T.Cs j)=_;rw[b];show(match P.info? t with|some ti=>aS ti.size u z (T.Cs j)|none=>.bad)=_;rw[c];exact p
variable{b1 b2:Hp}
def aH7(H:Static ops (EdP ops x y) sb G N (pl2 pre x y))(s:Static ops (EdP ops y x) sb G N (pl2 pre y x)){q:Pos}(A:Made T ops (EdP ops x y) (pl2 pre x y) q):
  Made (uX T (bG pre) b1 b2) ops (EdP ops y x) (pl2 pre y x) q:=by
 have b:∀{i c j},(i,c,j)∈phased 0 (pl2 pre x y)->c≠ .heavy->(i,c,j)∈phased 0 pre/\j<=bG pre:=λ{i c j} d r=>by
  rcases vW.1 d with h|⟨_,h,_⟩|⟨_,h,_⟩
  ·have:=(sK h).1;exact⟨h,by omega⟩
  ·exact absurd h r
  ·exact absurd h r
 refine⟨λi j p ob z=>?_,A.a2,A.a3,λj=>?_,λi j p u v D=>?_,A.i2,A.i4⟩
 ·obtain⟨g,l,t,n⟩:=A.a1 i j p ob z;obtain⟨o,E⟩:=b l (by simp);exact⟨g,vW.2 (.inl o),by rw[afX E];exact t,n⟩
 ·by_cases e1:j=bG pre+1
  ·subst e1;rw[aA5,aA3];exact⟨λ_ _=>rfl,rfl⟩
  ·by_cases e2:j=bG pre+2
   ·subst e2;rw[aA4,aA2];exact⟨λ_ _=>rfl,rfl⟩
   ·have C:(uX T (bG pre) b1 b2).Cs j=T.Cs j:=by
     show(if j=bG pre+1 then b1 else if j=bG pre+2 then b2 else T.Cs j)=_;rw[if_neg e1,if_neg e2]
    have B:(uX T (bG pre) b1 b2).Bs j=T.Bs j:=by
     show(if j=bG pre+1 then b1 else if j=bG pre+2 then b2 else T.Bs j)=_;rw[if_neg e1,if_neg e2]
    rw[C,B];exact A.ct j
 ·obtain⟨a,g,l,_,n⟩:=A.i1 i j p u v D;obtain⟨o,_⟩:=b g (by simp);have d:(i,Cls.ins a,j)∈phased 0 (pl2 pre y x):=vW.2 (.inl o);exact⟨a,d,l,(s.insA i a j d).2.1,n⟩
def Inv.swap(I:Inv T ops (EdP ops x y) (pl2 pre x y) keep fr G N Df M₀ h₀ w₀ L M f j a w)(c:L.getD x false=false)(o:L.getD y false=false):
  Inv (uX T (bG pre) b1 b2) ops (EdP ops y x) (pl2 pre y x) keep fr G N Df M₀ h₀ w₀ L M f j a w:=by
 have hj:j<=bG pre:=by
  have:=I.ph x (bG pre) (vW.2 (.inr (.inl ⟨rfl,rfl,rfl⟩)));rw[c]at this;rcases d? (bG pre) j with h|h
  ·have:=this.2 h;cases this
  ·exact h
 refine⟨I.lsize,λi k b hl=>?_,by rw[av4];omega,λi j' l=>?_,I.rel,by rw[Zl hj];exact I.nx,I.f1,λp n=>by rw[Zl hj];exact I.f2 p n,λi j' p ob d g=>by rw[Zl hj];exact I.f3 i j' p ob d g,I.un,I.e1,I.e2,I.size,I.plain,I.ext⟩
 ·rcases b with b|⟨rfl,rfl⟩
  ·exact I.down i k (.inl b) hl
  ·rw[c]at hl;cases hl
 ·rcases vW.1 l with h|⟨rfl,_,rfl⟩|⟨rfl,_,rfl⟩
  ·exact I.ph i j' (vW.2 (.inl h))
  ·rw[o];constructor
   ·intro h;cases h
   ·intro h;omega
  ·rw[c];constructor
   ·intro h;cases h
   ·intro h;omega
end
section
variable{P:Program}{e:FuncId->Option Fun}{Ed m:Nat->Nat->Prop}{ops:Array Oper}{sb:Nat->Nat->Bool}{fr:F}{keep:Nat->Bool}{G N:Nat}{Df:List Deferred}
variable{T:Tr}{plan pre:Plan}{M₀ M:Mp}{h h₀ f:Hp}{w₀ w:World}{L:Array Bool}{j:Nat}{a:Act}{i x y:Nat}{k:Env->Hp->Out}
def aTV(t:∀f F,e f=some F->aG P G f F)(back:∀j i,Edge ops j i->j<i)(v:x≠y){b1 b2:Hp}{M₀:Mp}{w₀:World}
  (J:Static ops (EdP ops x y) sb G N (pl2 pre x y)) (D:Static ops (EdP ops y x) sb G N (pl2 pre y x))
  (A:Made T ops (EdP ops x y) (pl2 pre x y) h₀.next) (B:Made (uX T (bG pre) b1 b2) ops (EdP ops y x) (pl2 pre y x) h₀.next)
  (stA:∀i c j,(i,c,j)∈phased 0 (pl2 pre x y)->jV P e ops sb fr T i c j) (s:∀i c j,(i,c,j)∈phased 0 (pl2 pre y x)->jV P e ops sb fr (uX T (bG pre) b1 b2) i c j)
  {Q:Exit->Act->World->Prop}
  (n:∀L M f j a w,Inv T ops (EdP ops x y) (pl2 pre x y) keep fr G N Df M₀ h₀ w₀ L M f j a w->(∀i,i<ops.size->L.getD i false=true)->Q .normal a w)
  (o:∀L M f j a w,Inv (uX T (bG pre) b1 b2) ops (EdP ops y x) (pl2 pre y x) keep fr G N Df M₀ h₀ w₀ L M f j a w->(∀i,i<ops.size->L.getD i false=true)->Q .normal a w):
  ∀(d:Nat) (L:Array Bool) (M:Mp) (f:Hp) (j:Nat) (a:Act) (w:World),left L<=d->
   (Inv T ops (EdP ops x y) (pl2 pre x y) keep fr G N Df M₀ h₀ w₀ L M f j a w\/(Inv (uX T (bG pre) b1 b2) ops (EdP ops y x) (pl2 pre y x) keep fr G N Df M₀ h₀ w₀ L M f j a w/\L.getD y false=true))->
   wpAny P .any ops Q d L a w:=by
 intro d;induction d with
 |zero=>
  intro L M f j a w hl I;have g:L.size=ops.size:=by rcases I with I|⟨I,_⟩<;>exact I.lsize
  have b:∀i,i<ops.size->L.getD i false=true:=λi hi=>ar7 (by omega) (by rw[g];exact hi);refine⟨?_,?_⟩
  ·apply List.eq_nil_iff_forall_not_mem.2;intro i hi;have R:=aaK g hi;have:=b i R.lt;rw[R.no]at this;cases this
  ·rcases I with I|⟨I,_⟩
   ·exact n L M f j a w I b
   ·exact o L M f j a w I b
 |succ d z=>
  intro L M f j a w hl I;have g:L.size=ops.size:=by rcases I with I|⟨I,_⟩<;>exact I.lsize
  refine⟨λO=>?_,λi hi=>?_⟩
  ·have b:∀i,i<ops.size->L.getD i false=true:=λi=>by
    induction i using Y! with
    |_ i C=>
     intro hi;cases u:L.getD i false with
     |true=>rfl
     |false=>
      exfalso;have:i∈Region.ready .any ops L:=au2 g hi u λk l=>C k (back k i l) (by have:=back k i l;omega);rw[O]at this;cases this
   rcases I with I|⟨I,_⟩
   ·exact n L M f j a w I b
   ·exact o L M f j a w I b
  ·have R:=aaK g hi;have K:=avT (by rw[g];exact R.lt) R.no;rcases I with I|⟨I,r⟩
   ·by_cases E:i=y/\L.getD x false=false
    ·obtain⟨rfl,S⟩:=E;have H:=I.swap (b1:=b1) (b2:=b2) S R.no;have q:Ready ops (EdP ops i x) L i:=⟨R.lt,R.no,λk l=>by
      rcases l with l|⟨_,l⟩
      ·exact R.edge k l
      ·exact absurd l.symm v⟩
     refine wpOp_mono ?_ (H.step t D B s q (Q:=Q));rintro a' w' ⟨M',f',j',p⟩;refine z _ M' f' j' a' w' (by omega) (.inr ⟨p,?_⟩);rw[fJ L (by rw[g];exact R.lt),if_pos rfl]
    ·have q:Ready ops (EdP ops x y) L i:=⟨R.lt,R.no,λk l=>by
      rcases l with l|⟨rfl,rfl⟩
      ·exact R.edge k l
      ·cases u:L.getD k false with
       |true=>rfl
       |false=>exact absurd ⟨rfl,u⟩ E⟩
     refine wpOp_mono ?_ (I.step t J A stA q (Q:=Q));rintro a' w' ⟨M',f',j',p⟩;exact z _ M' f' j' a' w' (by omega) (.inl p)
   ·have q:Ready ops (EdP ops y x) L i:=⟨R.lt,R.no,λk l=>by
     rcases l with l|⟨rfl,rfl⟩
     ·exact R.edge k l
     ·exact r⟩
    refine wpOp_mono ?_ (I.step t D B s q (Q:=Q));rintro a' w' ⟨M',f',j',p⟩;refine z _ M' f' j' a' w' (by omega) (.inr ⟨p,?_⟩);rw[fJ L (by rw[g];exact R.lt)];split
    ·rfl
    ·exact r
end
section
variable{P:Program}{e:FuncId->Option Fun}{ops:Array Oper}{sb:Nat->Nat->Bool}{fr:F}{keep:Nat->Bool}{G N:Nat}{Df:List Deferred}
variable{T:Tr}{pre:Plan}{h:Hp}{i x y:Nat}{out:Out}
def posOf(v:V):Option Pos:=match v with
 | .ptr p _=>some p
 |_=>none
def ah1(ops:Array Oper)(sb:Nat->Nat->Bool)(fr:F)(E:Env)(x:Nat):Option Pos:=match ops[x]? with
 |some o=>(match o.op with
  | .store _ a _=>(match a with
   | .tmp t=>(match IX ops sb x t with
    |true=>(match dB t E with|some v=>posOf v|none=>none)
    |false=>(match fr.get (Pos.of t) with|some v=>posOf v|none=>none))
   |_=>none)
  |_=>none)
 |none=>none
def awl(ops:Array Oper)(sb:Nat->Nat->Bool)(fr:F)(E:Env)(x y:Nat):Bool:=match ah1 ops sb fr E x with
 |some p=>(match ah1 ops sb fr E y with
  |some q=>(match p.eq q with|true=>false|false=>true)
  |none=>false)
 |none=>false
def ava{v:V}{p:Pos}(h:posOf v=some p):∃o,v=.ptr p o:=by
 unfold posOf at h;split at h
 ·cases h;exact⟨_,rfl⟩
 ·cases h
def arX{E:Env}{o:Oper}{t:TypeId}{g l:Operand}{u z:V}{p:Pos}(j:ops[x]?=some o)(b:o.op=.store t g l)(f:UQ ops sb fr E x o.op.operands.toList [u,z])(a:ah1 ops sb fr E x=some p):
  ∃q,u=.ptr p q:=by
 rw[b]at f;obtain⟨m,n,e1,k,-⟩:=f;cases e1;unfold ah1 at a;rw[j]at a;simp only[b]at a;split at a
 ·rename_i t';rcases k with⟨c,d⟩|⟨c,d⟩
  ·rw[c]at a;simp only[d]at a;exact ava a
  ·rw[c]at a;simp only[d]at a;exact ava a
 ·cases a
def aLj{E:Env}(h:awl ops sb fr E x y=true):∃p q,ah1 ops sb fr E x=some p/\ah1 ops sb fr E y=some q/\p≠q:=by
 unfold awl at h;split at h
 ·rename_i p b;split at h
  ·rename_i q c;split at h
   ·cases h
   ·rename_i a;exact⟨p,q,b,c,Pos.eq_false.1 a⟩
  ·cases h
 ·cases h
def aun(P:Program)(keep:Nat->Bool)(e:FuncId->Option Fun)(ops:Array Oper)(sb:Nat->Nat->Bool)(pre:Plan)(x y:Nat)(fr:F)(h:Hp):Out:=
 xP P e ops sb fr (λE h=>match awl ops sb fr E x y with|true=>uS keep E (λfr=>.nor fr h) ops.toList fr|false=>.bad) (pl2 pre x y) [] ⟨h.t,bump (jF (pl2 pre x y)) h.next⟩ ⟨h.t,bump (jF (pl2 pre x y)) h.next⟩ [] h.next
def abe{E:Env}:∀(l:List Oper) (fr:F) {H:Hp},uS keep E (λfr=>.nor fr H) l fr≠ .bad->∃b,∀c,uS keep E (λfr=>.nor fr c) l fr=.nor b c
 | [],fr,H,_=>⟨fr,λ_=>rfl⟩
 |o::l,fr,H,a=>by
  unfold uS at a;cases hd:o.dst with
  |none=>
   rw[hd]at a;obtain⟨b,h⟩:=abe l fr a;exact⟨b,λc=>by unfold uS;rw[hd];exact h c⟩
  |some d=>
   rw[hd]at a;cases f:keep d with
   |false=>
    simp only[f]at a;obtain⟨b,h⟩:=abe l fr a;exact⟨b,λc=>by unfold uS;rw[hd];simp only[f];exact h c⟩
   |true=>
    simp only[f]at a;cases g:dB d E with
    |none=>rw[g]at a;exact absurd rfl a
    |some v=>
     rw[g]at a;obtain⟨b,h⟩:=abe l _ a;exact⟨b,λc=>by unfold uS;rw[hd];simp only[f,g];exact h c⟩
def eU.pair(u:P.follows .mixedOrders=true)(hE:∀f F,e f=some F->aG P G f F){id:Nat}(S:∀o∈ops.toList,∀c,o.op≠ .defer c)(back:∀j i,Edge ops j i->j<i)(Z:x≠y)
  (s:Static ops (EdP ops x y) sb G N (pl2 pre x y)) (J:Static ops (EdP ops y x) sb G N (pl2 pre y x)) (hx:aJy ops x) (hy:aJy ops y):eU P keep G N (.region id ops true) (aun P keep e ops sb pre x y):=by
 intro ro n Df fr h M a w d at_;refine am4 u jq.aui S ?_;generalize C:aun P keep e ops sb pre x y fr h=out at d;obtain⟨T,t⟩:=uN d (pl2 pre x y) [] _ _ [] [] h.next s.nodup rfl C;have A:=aFf s t
 have I0:=aDC s t at_;have b:=t.out;simp only[List.length_nil,Nat.zero_add]at b;have l:awl ops sb fr T.E x y=true:=by
  cases hd:awl ops sb fr T.E x y with
  |true=>rfl
  |false=>rw[hd]at b;exact absurd b.symm d
 rw[l]at b;have b:uS keep T.E (λfr=>.nor fr (T.Cs (bG (pl2 pre x y)))) ops.toList fr=out:=b;obtain⟨ox,tx,ax,zx,x1,x2,x3,x4⟩:=hx;obtain⟨oy,ty,ay,zy,y1,y2,y3,y4⟩:=hy;obtain⟨aa,ux,vx,rx,x5,x6,x7⟩:=aCa x1 x2 x3 x4 (t.steps x .heavy (bG pre) (vW.2 (.inr (.inl ⟨rfl,rfl,rfl⟩))));obtain⟨ab,uy,vy,ry,y5,y6,y7⟩:=aCa y1 y2 y3 y4 (t.steps y .heavy (bG pre+1) (vW.2 (.inr (.inr ⟨rfl,rfl,rfl⟩))));obtain⟨p,q,hp,hq,U⟩:=aLj l;obtain⟨px,W⟩:=arX x1 x4 x6 hp;obtain⟨py,X⟩:=arX y1 y4 y6 hq;have D:∀j,bG pre<j->∀i r ob,(i,j,r,ob)∉T.A:=λj hj i r ob hA=>by
  obtain⟨_,k,_,_⟩:=A.a1 i j r ob hA;rcases vW.1 k with h|⟨_,h,_⟩|⟨_,h,_⟩
  ·have:=(sK h).1;omega
  ·cases h
  ·cases h
 have O:∀r,(T.Cs (bG pre+1)).get r=(T.Bs (bG pre+1)).get r:=λr=>(A.ct _).1 r λi ob=>D _ (by omega) i r ob;have Q:∀r,(T.Cs (bG pre+2)).get r=(T.Bs (bG pre+2)).get r:=λr=>(A.ct _).1 r λi ob=>D _ (by omega) i r ob;obtain⟨K,k,F1,F2,Fg,Fn⟩:=aCN x7 O (A.ct _).2 y7 W X U;have H:∀i c j,(i,c,j)∈phased 0 (pl2 pre y x)->jV P e ops sb fr (uX T (bG pre) K k) i c j:=λi c j u=>by
  rcases vW.1 u with u|⟨rfl,rfl,rfl⟩|⟨rfl,rfl,rfl⟩
  ·have:=sK u;exact(t.steps i c j (vW.2 (.inl u))).alt (by omega) (λhc=>by have:=this.2 hc;omega)
  ·exact aKh y1 y2 y3 y4 y5 y6 (by rw[afX (y! _),aA5];exact F1)
  ·exact aKh x1 x2 x3 x4 x5 x6 (by rw[aA3,aA4];exact F2)
 have B:=aH7 (b1:=K) (b2:=k) s J A;obtain⟨v,hF⟩:=abe ops.toList fr (by rw[b];exact d);have m:out=.nor v (T.Cs (bG pre+2)):=by rw[<-b,hF,av4]
 refine aTV hE back Z s J A B t.steps H (awk s A t.steps at_ d b) (λL M' f j a' w' I z=>?_) ops.size _ M (T.Bs 0) 0 a _ (by unfold left;exact Nat.le_trans List.countP_le_length (by simp)) (.inl I0);have:=awk (out:=.nor v k) J B H at_ (by simp) (by
  show uS keep T.E (λfr=>.nor fr ((uX T (bG pre) K k).Cs (bG (pl2 pre y x)))) ops.toList fr=_;rw[hF,av4,aA2]) L M' f j a' w' I z
 rw[m];obtain⟨M2,g,Y⟩:=this;have he:∀r,(T.Cs (bG pre+2)).get r=k.get r:=λr=>by rw[Q,Fg]
 have hn:(T.Cs (bG pre+2)).next=k.next:=by rw[(A.ct _).2,Fn]
 exact⟨M2,⟨g.rel.congr he hn,g.fr,g.size,g.plain⟩,Y.congr he hn⟩
end
section
variable{P:Program}{e:FuncId->Option Fun}{ops:Array Oper}{keep:Nat->Bool}{G N:Nat}
def aJ0:Plan->Option (Plan×Nat×Nat)
 | []=>none
 |z::l=>(match aJ0 l with
  |some (pre,x,y)=>some (z::pre,x,y)
  |none=>(match l with
   | []=>none
   |b::a=>(match a with
    | []=>some ([],z.1,b.1)
    |_::_=>none)))
def auj(ops:Array Oper)(x:Nat):Bool:=match ops[x]? with
 |some o=>(match o.guard,o.dst,o.op with
  |none,none,.store _ _ _=>true
  |_,_,_=>false)
 |none=>false
def avZ{x:Nat}(h:auj ops x=true):aJy ops x:=by
 unfold auj at h;split at h
 ·rename_i o f;split at h
  ·rename_i t a g b c d;exact⟨o,t,a,g,f,b,c,d⟩
  ·cases h
 ·cases h
def afx(ops:Array Oper)(ms:List Nat)(G N:Nat)(pre:Plan)(x y:Nat):Bool:=
 Y8 ops ms&&(ah2 ops (yV ms) (sbP (yV ms) x y) G N (pl2 pre x y)&&(ah2 ops (yV ms) (sbP (yV ms) y x) G N (pl2 pre y x)&&(auj ops x&&(auj ops y&&!(g! x y)))))
def aAb{ms:List Nat}(a:Y8 ops ms=true){x y i j:Nat}(hi:i<ops.size)(h:sbP (yV ms) x y j i=true):Bef (EdP ops x y) j i:=by
 unfold sbP at h;rw[w!]at h;rcases h with h|h
 ·exact(kP a hi h).mono λ_ _ h=>.inl h
 ·rw[b!]at h;exact .one (.inr ⟨a! h.1,a! h.2⟩)
def aKN(r:P.follows .mixedOrders=true)(p:∀f F,e f=some F->aG P G f F){id:Nat}(d:∀o∈ops.toList,∀c,o.op≠ .defer c){ms:List Nat}{pre:Plan}{x y:Nat}(h:afx ops ms G N pre x y=true):
  eU P keep G N (.region id ops true) (aun P keep e ops (yV ms) pre x y):=by
 simp only[afx,b!,C!]at h;obtain⟨b,g,k,l,m,n⟩:=h;refine eU.pair r p d (λj i q=>aa1 b q) (u! n) ?_ ?_ (avZ l) (avZ m)
 ·exact arU (λhi a=>(kP b hi a).mono λ_ _ h=>.inl h) (λhi a=>aAb b hi a) g
 ·exact arU (λhi a=>(kP b hi a).mono λ_ _ h=>.inl h) (λhi a=>aAb b hi a) k
def aC5(P:Program)(G N:Nat)(keep:Nat->Bool)(e:FuncId->Option Fun)(ops:Array Oper)(ms:List Nat)(plan:Plan):F->Hp->Out:=match aJ0 plan with
 |some (pre,x,y)=>(match afx ops ms G N pre x y with|true=>aun P keep e ops (yV ms) pre x y|false=>λ_ _=>.bad)
 |none=>λ_ _=>.bad
def aHT(d:P.follows .mixedOrders=true)(b:∀f F,e f=some F->aG P G f F){id:Nat}(a:∀o∈ops.toList,∀c,o.op≠ .defer c){ms:List Nat}{plan:Plan}:
  eU P keep G N (.region id ops true) (aC5 P G N keep e ops ms plan):=by
 unfold aC5;split
 ·split
  ·rename_i h;exact aKN d b a h
  ·exact .bad
 ·exact .bad
end
section
variable{P:Program}{G N:Nat}{keep:Nat->Bool}{e:FuncId->Option Fun}{ops:Array Oper}
def MK(t:Nat):List Nat->Bool
 | []=>false
 |u::l=>(match g! t u with|true=>true|false=>MK t l)
def alr{t:Nat}:∀{l:List Nat},MK t l=true↔t∈l
 | []=>by simp[MK]
 |u::l=>by
  simp only[MK];split
  ·rename_i h;simp[a! h]
  ·rename_i h;simp[alr,u! h]
def aiq(d:Option Nat)(a:List Nat):List Nat:=match d with
 |none=>a
 |some d=>a.filter λu=>not (g! u d)
def XF(d:Option Nat)(a:List Nat):List Nat:=match d with
 |none=>a
 |some d=>d::a
def ifB(v:V)(t f:Out):Out:=match v with| .bool b=>(match b with|true=>t|false=>f)|_=>.bad
def aA(r:R V)(k:V->Hp->Out):Out:=match r with| .ok v h=>k v h| .bad=>.bad
instance:CoeFun (R V) (λ_=>(V->Hp->Out)->Out):=⟨aA⟩
def gtO(o:Option V)(k:V->Out):Out:=match o with|some v=>k v|none=>.bad
def oC(o:Out)(k:F->Hp->Out):Out:=match o with
 | .nor fr h=>k fr h
 | .ret fr h=>.ret fr h
 | .ex i fr h=>.ex i fr h
 | .bad=>.bad
def QB(P:Program)(keep:Nat->Bool)(e:FuncId->Option Fun)(ops:Array Oper):List Oper->List Nat->Env->F->Hp->Out
 | [],_,_,fr,h=>.nor fr h
 |o::l,a,env,fr,h=>(match o.guard with
  |none=>opK P keep e o env fr h (QB P keep e ops l (aiq o.dst a))
  |some (j,b)=>(match (ops[j]?).bind (·.dst) with
   |none=>.bad
   |some d=>(match MK d a with
    |true=>xO keep o.dst V.undef env fr λenv fr=>QB P keep e ops l (XF o.dst a) env fr h
    |false=>aaB d env fr λv env=>(match b with
     |true=>ifB v (opK P keep e o ((d,.bool true)::env) fr h (QB P keep e ops l (aiq o.dst a))) (xO keep o.dst V.undef ((d,.bool false)::env) fr λenv fr=>QB P keep e ops l (XF o.dst a) env fr h)
     |false=>ifB v (xO keep o.dst V.undef ((d,.bool true)::env) fr λenv fr=>QB P keep e ops l (XF o.dst a) env fr h) (opK P keep e o ((d,.bool false)::env) fr h (QB P keep e ops l (aiq o.dst a)))))))
def LeO(a b:Out):Prop:=a≠ .bad->b=a
def LeO.refl(a:Out):LeO a a:=λ_=>rfl
def LeO.bad(b:Out):LeO .bad b:=λh=>absurd rfl h
def EqE(env a:Env):Prop:=∀t,dB t env=dB t a
def EqE.refl(env:Env):EqE env env:=λ_=>rfl
def EqE.cons{env a:Env}(h:EqE env a)(d:Nat)(v:V):EqE ((d,v)::env) ((d,v)::a):=λt=>by rw[jE,jE,h t]
def EqE.known{env a:Env}(h:EqE env a){d:Nat}{v:V}(hd:dB d a=some v):EqE ((d,v)::env) a:=λt=>by
 rw[jE];split
 ·rename_i e;subst e;exact hd.symm
 ·exact h t
def DC(a:List Nat)(env:Env):Prop:=∀d∈a,dB d env=some V.undef
def az2{t:Nat}{env b:Env}{fr:F}{k j:V->Env->Out}(d:EqE env b)(i:∀v a c,EqE a c->(∀u x,dB u env=some x->dB u a=some x)->dB t a=some v->LeO (k v a) (j v c)):LeO (aaB t env fr k) (aaB t b fr j):=by
 unfold aaB;rw[<-d t];cases g:dB t env with
 |some v=>exact i v env b d (λ_ _ h=>h) g
 |none=>
  simp only[gt];cases fr.get (Pos.of t) with
  |none=>exact LeO.bad _
  |some v=>
   refine i v _ _ (d.cons t v) (λu x f=>?_) (by rw[jE,if_pos rfl]);rw[jE,if_neg (λe=>by subst e;rw[g]at f;cases f)];exact f
def aKO{x:Operand}{env j:Env}{fr:F}{k n:V->Env->Out}(l:EqE env j)(m:∀v d i,EqE d i->(∀u x,dB u env=some x->dB u d=some x)->LeO (k v d) (n v i)):LeO (aaP x env fr k) (aaP x j fr n):=by
 cases x with
 |tmp t=>exact az2 l λv a b h g _=>m v a b h g
 |const c=>
  simp only[aaP];split
  ·exact m _ _ _ l (λ_ _ h=>h)
  ·exact LeO.bad _
 |global g=>exact m _ _ _ l (λ_ _ h=>h)
 |func f=>exact m _ _ _ l (λ_ _ h=>h)
def avj{fr:F}:∀{l:List Operand} {env c:Env} {k i:List V->Env->Out} (_:EqE env c) (_:∀vs a b,EqE a b->(∀u x,dB u env=some x->dB u a=some x)->LeO (k vs a) (i vs b)),LeO (am8 l env fr k) (am8 l c fr i)
 | [],_,_,_,_,d,f=>f [] _ _ d (λ_ _ h=>h)
 |_::l,_,_,_,_,d,f=>aKO d λv _ _ h g=>avj (l:=l) h λvs _ _ h' g'=>f (v::vs) _ _ h' λu x j=>g' u x (g u x j)
def aAO{d:Option Nat}{v:V}{env c:Env}{fr:F}{k j:Env->F->Out}(g:EqE env c)(i:∀a b fr,EqE a b->(∀u x,d≠some u->dB u env=some x->dB u a=some x)->(∀x,d=some x->dB x a=some v)->LeO (k a fr) (j b fr)):LeO (xO keep d v env fr k) (xO keep d v c fr j):=by
 cases d with
 |none=>exact i _ _ _ g (λ_ _ _ h=>h) (λx h=>by cases h)
 |some d=>
  have l:∀u x,some d≠some u->dB u env=some x->dB u ((d,v)::env)=some x:=λu x n f=>by rw[jE,if_neg (λe=>n (by rw[e]))];exact f
  have m:∀x,some d=some x->dB x ((d,v)::env)=some v:=λx f=>by cases f;rw[jE,if_pos rfl]
  simp only[xO,aDr];split<;>exact i _ _ _ (g.cons d v) l m
def aO3{o:Oper}{env f:Env}{fr:F}{h:Hp}{k g:Env->F->Hp->Out}(p:EqE env f)(q:∀d c fr h,EqE d c->(∀u x,o.dst≠some u->dB u env=some x->dB u d=some x)->LeO (k d fr h) (g c fr h)):LeO (opK P keep e o env fr h k) (opK P keep e o f fr h g):=by
 refine avj p λvs d c l i=>?_;unfold bnd;cases iQ P e o.op vs h with
 |bad=>exact LeO.bad _
 |ok v m=>exact aAO l λa b fr n j _=>q a b fr m n λu x r s=>j u x r (i u x s)
def DC.drop{g:List Nat}{env a:Env}{d:Option Nat}(f:DC g env)(h:∀u x,d≠some u->dB u env=some x->dB u a=some x):DC (aiq d g) a:=by
 intro t b;cases d with
 |none=>exact h t _ (by simp) (f t b)
 |some d=>
  simp only[aiq,List.mem_filter]at b;have c:t≠d:=by
   intro e;subst e;have:=b.2;simp[D!]at this
  exact h t _ (λe=>c (by cases e;rfl)) (f t b.1)
def DC.add{f:List Nat}{env a:Env}{d:Option Nat}(c:DC f env)(h:∀u x,d≠some u->dB u env=some x->dB u a=some x)(i:∀x,d=some x->dB x a=some V.undef):DC (XF d f) a:=by
 intro t b;cases d with
 |none=>exact h t _ (by simp) (c t b)
 |some d=>
  by_cases e:t=d
  ·subst e;exact i t rfl
  ·simp only[XF,a?,e,false_or]at b;exact h t _ (λg=>e (by cases g;rfl)) (c t b)
def DC.known{c:List Nat}{env:Env}{d:Nat}{v:V}(b:DC c env)(hd:dB d env=some v):DC c ((d,v)::env):=λt a=>by
 rw[jE];split
 ·rename_i e;subst e;rw[<-hd];exact b t a
 ·exact b t a
def apY:∀(l:List Oper) (n:List Nat) (env i:Env) (fr:F) (h:Hp),DC n env->EqE env i->LeO (QB P keep e ops l n env fr h) (pG P keep e ops l i fr h)
 | [],_,_,_,_,_,_,_=>LeO.refl _
 |o::l,n,env,i,fr,h,u,s=>by
  have yes:∀g f:Env,DC n g->EqE g f->LeO (opK P keep e o g fr h (QB P keep e ops l (aiq o.dst n))) (opK P keep e o f fr h (pG P keep e ops l)):=λg f k p=>
   aO3 p λa b fr h x w=>apY l _ a b fr h (k.drop w) x
  have no:∀g f:Env,DC n g->EqE g f->LeO (xO keep o.dst V.undef g fr λenv fr=>QB P keep e ops l (XF o.dst n) env fr h) (xO keep o.dst V.undef f fr λenv fr=>pG P keep e ops l env fr h):=λg f k p=>
   aAO p λa b fr x w C=>apY l _ a b fr h (k.add w C) x
  rcases z:o.guard with _|⟨j,b⟩
  ·simp only[QB,pG,z];exact yes env i u s
  ·simp only[QB,pG,z];cases hd:(ops[j]?).bind (·.dst) with
   |none=>exact LeO.bad _
   |some d=>
    simp only[];cases D:MK d n with
    |true=>
     have y:dB d i=some (.tuple .nil):=by rw[<-s d];exact u d (alr.1 D)
     simp only[aaB,y,av5];exact no env i u s
    |false=>
     refine az2 s λv g f q B r=>?_;have k:DC n g:=λt E=>B _ _ (u t E)
     have m:dB d f=some v:=by rw[<-q d];exact r
     cases v<;>first|(cases b<;>exact LeO.bad _)|skip
     rename_i c;cases c<;>cases b
     ·exact yes _ _ (k.known r) (q.known m)
     ·exact no _ _ (k.known r) (q.known m)
     ·exact no _ _ (k.known r) (q.known m)
     ·exact yes _ _ (k.known r) (q.known m)
def BP(P:Program)(e:FuncId->Option Fun)(ops:Array Oper)(sb:Nat->Nat->Bool)(fr:F)(k:Env->Hp->Out):Plan->List Nat->Env->Hp->Hp->List Hp->Pos->Out
 | [],_,env,_,cur,_,_=>k env cur
 |(i,c)::l,a,env,base,cur,past,q=>(match ops[i]? with
  |none=>.bad
  |some o=>(match o.guard with
   |none=>zk ops sb fr i env o.op.operands.toList λvs=>rV P e o c vs base cur past q λv base cur past q=>uU o.dst v env λenv=>BP P e ops sb fr k l a env base cur past q
   |some (g,b)=>(match (ops[g]?).bind (·.dst) with
    |none=>.bad
    |some d=>(match MK d a with
     |true=>NQ c base cur past q λbase cur past q=>uU o.dst V.undef env λenv=>BP P e ops sb fr k l (XF o.dst a) env base cur past q
     |false=>(match dB d env with
      |none=>.bad
      |some v=>(match b with
       |true=>ifB v
        (zk ops sb fr i ((d,.bool true)::env) o.op.operands.toList λvs=>rV P e o c vs base cur past q λv base cur past q=>uU o.dst v ((d,.bool true)::env) λenv=>BP P e ops sb fr k l a env base cur past q)
        (NQ c base cur past q λbase cur past q=>uU o.dst V.undef ((d,.bool false)::env) λenv=>BP P e ops sb fr k l (XF o.dst a) env base cur past q)
       |false=>ifB v
        (NQ c base cur past q λbase cur past q=>uU o.dst V.undef ((d,.bool true)::env) λenv=>BP P e ops sb fr k l (XF o.dst a) env base cur past q)
        (zk ops sb fr i ((d,.bool false)::env) o.op.operands.toList λvs=>rV P e o c vs base cur past q λv base cur past q=>uU o.dst v ((d,.bool false)::env) λenv=>BP P e ops sb fr k l a env base cur past q)))))))
variable{sb:Nat->Nat->Bool}{fr:F}
def aKP{i:Nat}{env a:Env}{x:Operand}{k d:V->Out}(h:EqE env a)(b:∀v,LeO (k v) (d v)):LeO (aln ops sb fr i env x k) (aln ops sb fr i a x d):=by
 cases x with
 |tmp t=>
  simp only[aln,<-h t];split
  ·cases dB t env with
   |none=>exact LeO.bad _
   |some v=>exact b v
  ·simp only[gt];cases fr.get (Pos.of t) with
   |none=>exact LeO.bad _
   |some v=>exact b v
 |const c=>
  simp only[aln];split
  ·exact b _
  ·exact LeO.bad _
 |global g=>exact b _
 |func f=>exact b _
def avl{i:Nat}{env a:Env}(c:EqE env a):∀{l:List Operand} {k d:List V->Out},(∀vs,LeO (k vs) (d vs))->LeO (zk ops sb fr i env l k) (zk ops sb fr i a l d)
 | [],_,_,b=>b []
 |_::l,_,_,b=>aKP c λv=>avl c (l:=l) λvs=>b (v::vs)
def aAP{d:Option Nat}{v:V}{env c:Env}{k j:Env->Out}(g:EqE env c)(i:∀a b,EqE a b->(∀u x,dB u env=some x->dB u a=some x)->(∀x,d=some x->dB x a=some v)->LeO (k a) (j b)):LeO (uU d v env k) (uU d v c j):=by
 cases d with
 |none=>exact i _ _ g (λ_ _ h=>h) (λx h=>by cases h)
 |some d=>
  simp only[uU,<-g d];cases hd:dB d env with
  |some _=>exact LeO.bad _
  |none=>exact i _ _ (g.cons d v) (λu x f=>by rw[jE,if_neg (λe=>by subst e;rw[hd]at f;cases f)];exact f) (λx f=>by cases f;rw[jE,if_pos rfl])
def aFm{m:Hp->R V}{v:V}{k b:Out}(a:LeO k b):∀(n:Nat) (l:List Hp),LeO (chk m v k n l) (chk m v b n l)
 |0,[]=>a
 |0,_::_=>a
 |n+1,[]=>a
 |n+1,g::l=>by
  unfold chk;split
  ·split
   ·exact aFm a n l
   ·exact LeO.bad _
  ·exact LeO.bad _
def aK3{op:Op}{vs:List V}{base cur:Hp}{q:Pos}{k b:Hp->Out}(o:∀h,LeO (k h) (b h)):LeO (aly P op vs base cur q k) (aly P op vs base cur q b):=by
 intro a;obtain⟨p,x,y,es,rfl,⟨t,r,kk,vv,v,s,d,rfl,c,f,i⟩,j,l,m,n,u⟩:=aAF a rfl;have key:∀g:Hp->Out,aly P (.insert t r kk vv) [.map p,x,y] base cur q g=g (cur.put p (some (.map (es++ [(x,y)])))):=λg=>by
  simp only[aly,c,f,aIg,i,show o! p.nat q.nat=true by simpa[n!]using j,l,m,n]
 rw[key,key];rw[key]at a;exact o _ a
def aLq{o:Oper}{c:Cls}{vs:List V}{base cur:Hp}{past:List Hp}{q:Pos}{k d:V->Hp->Hp->List Hp->Pos->Out}(b:∀v base cur past q,LeO (k v base cur past q) (d v base cur past q)):LeO (rV P e o c vs base cur past q k) (rV P e o c vs base cur past q d):=by
 cases c with
 |pure=>
  simp only[rV];split
  ·simp only[bnd];split
   ·exact b _ _ _ _ _
   ·exact LeO.bad _
  ·exact LeO.bad _
 |read n=>
  simp only[rV];split
  ·simp only[bnd];split
   ·exact aFm (b _ _ _ _ _) _ _
   ·exact LeO.bad _
  ·exact LeO.bad _
 |alloc=>
  simp only[rV];split
  ·exact b _ _ _ _ _
  ·exact LeO.bad _
 |heavy=>
  simp only[rV,bnd];split
  ·exact b _ _ _ _ _
  ·exact LeO.bad _
 |own a=>
  simp only[rV];split
  ·split
   ·unfold aHU;split
    ·split
     ·simp only[bnd];split
      ·exact b _ _ _ _ _
      ·exact LeO.bad _
     ·exact LeO.bad _
    ·exact LeO.bad _
   ·exact LeO.bad _
  ·exact LeO.bad _
 |ins a=>
  simp only[rV];exact aK3 λh=>b _ _ _ _ _
def aHG{c:Cls}{base cur:Hp}{past:List Hp}{q:Pos}{k a:Hp->Hp->List Hp->Pos->Out}(b:∀base cur past q,LeO (k base cur past q) (a base cur past q)):LeO (NQ c base cur past q k) (NQ c base cur past q a):=by
 cases c<;>exact b _ _ _ _
def alF{k B:Env->Hp->Out}(H:∀env f h,EqE env f->LeO (k env h) (B f h)):∀(l:Plan) (s:List Nat) (env f:Env) (base cur:Hp) (past:List Hp) (q:Pos),DC s env->EqE env f->LeO (BP P e ops sb fr k l s env base cur past q) (xP P e ops sb fr B l f base cur past q)
 | [],_,env,f,_,cur,_,_,_,n=>H env f cur n
 |(i,c)::l,s,env,f,base,cur,past,q,w,n=>by
  cases I:ops[i]? with
  |none=>simp only[BP,I];exact LeO.bad _
  |some o=>
   have yes:∀m j:Env,DC s m->EqE m j->LeO (zk ops sb fr i m o.op.operands.toList λvs=>rV P e o c vs base cur past q λv base cur past q=>uU o.dst v m λenv=>BP P e ops sb fr k l s env base cur past q)
     (zk ops sb fr i j o.op.operands.toList λvs=>rV P e o c vs base cur past q λv base cur past q=>uU o.dst v j λenv=>xP P e ops sb fr B l env base cur past q):=λm j y p=>
    avl p λvs=>aLq λv base cur past q=>aAP p λa b D C _=>alF H l s a b base cur past q (λt M=>C _ _ (y t M)) D
   have no:∀m j:Env,DC s m->EqE m j->LeO (NQ c base cur past q λbase cur past q=>uU o.dst V.undef m λenv=>BP P e ops sb fr k l (XF o.dst s) env base cur past q)
     (NQ c base cur past q λbase cur past q=>uU o.dst V.undef j λenv=>xP P e ops sb fr B l env base cur past q):=λm j y p=>
    aHG λbase cur past q=>aAP p λa b D C K=>alF H l _ a b base cur past q (y.add (λu x _=>C u x) K) D
   rcases J:o.guard with _|⟨g,b⟩
   ·simp only[BP,xP,I,J];exact yes env f w n
   ·simp only[BP,xP,I,J];cases hd:(ops[g]?).bind (·.dst) with
    |none=>exact LeO.bad _
    |some d=>
     simp only[];cases L:MK d s with
     |true=>
      have E:dB d f=some (.tuple .nil):=by rw[<-n d];exact w d (alr.1 L)
      simp only[E,aIj];exact no env f w n
     |false=>
      simp only[<-n d];cases z:dB d env with
      |none=>exact LeO.bad _
      |some v=>
       have r:dB d f=some v:=by rw[<-n d];exact z
       cases v<;>first|(cases b<;>exact LeO.bad _)|skip
       rename_i t;cases t<;>cases b
       ·exact yes _ _ (w.known z) (n.known r)
       ·exact no _ _ (w.known z) (n.known r)
       ·exact no _ _ (w.known z) (n.known r)
       ·exact yes _ _ (w.known z) (n.known r)
def aik{E b:Env}(a:EqE E b){k:F->Out}:∀(l:List Oper) (fr:F),uS keep E k l fr=uS keep b k l fr
 | [],_=>rfl
 |o::l,fr=>by
  simp only[uS];split
  ·exact aik a l fr
  ·rename_i d _;split
   ·exact aik a l fr
   ·rw[<-a d];split
    ·exact aik a l _
    ·rfl
def aKb(P:Program)(keep:Nat->Bool)(e:FuncId->Option Fun)(ops:Array Oper)(sb:Nat->Nat->Bool)(plan:Plan)(fr:F)(h:Hp):Out:=
 BP P e ops sb fr (λE h=>uS keep E (λfr=>.nor fr h) ops.toList fr) plan [] [] ⟨h.t,bump (jF plan) h.next⟩ ⟨h.t,bump (jF plan) h.next⟩ [] h.next
def aIB{plan:Plan}(fr:F)(h:Hp):LeO (aKb P keep e ops sb plan fr h) (aDD P keep e ops sb plan fr h):=
 alF (λenv a h b=>by rw[aik b];exact LeO.refl _) plan [] [] [] _ _ _ _ (λ_ h=>by cases h) (EqE.refl _)
def eU.le{c:Code}{D d:F->Hp->Out}(hd:eU P keep G N c D)(h:∀fr g,LeO (d fr g) (D fr g)):eU P keep G N c d:=by
 intro ro n Df fr g M a w b at_;have e:=h fr g b;rw[<-e];exact hd _ _ _ fr g M a w (by rw[e];exact b) at_
def aT(c:Operand)(a b:F->Hp->Out)(fr:F)(h:Hp):Out:=aaP c [] fr λv _=>ifB v (a fr h) (b fr h)
abbrev tT(n:Nat):=aT (.tmp n)
def aAT(c:Operand)(a b:F->Hp->Out):aT c a b=aqA c a b:=by
 funext fr h;rfl
def lY(P:Program)(G N:Nat)(keep:Nat->Bool)(e:FuncId->Option Fun)(pl:bY)(lf:Nat):Code->F->Hp->Out
 | .skip=>.nor
 | .label _=>.nor
 | .region id ops d=>(match d with
  |false=>QB P keep e ops ops.toList [] []
  |true=>(match pl id with
   |some (ms,plan)=>(match afw ops ms G N plan with|true=>aKb P keep e ops (yV ms) plan|false=>aC5 P G N keep e ops ms plan)
   |none=>λ_ _=>.bad))
 | .seq a b=>aB (lY P G N keep e pl lf a) (lY P G N keep e pl lf b)
 | .cond c a b=>aT c (lY P G N keep e pl lf a) (lY P G N keep e pl lf b)
 | .block id b=>bD id (lY P G N keep e pl lf b)
 | .loop b=>dG (lY P G N keep e pl lf b) lf
 | .exit id=>.ex id
 | .ret=>.ret
 | .scope b=>lY P G N keep e pl lf b
 |_=>λ_ _=>.bad
def eF(k:P.follows .mixedOrders=true)(j:∀f F,e f=some F->aG P G f F)(pl:bY)(lf:Nat):(c:Code)->codeOk G N c=true->eU P keep G N c (lY P G N keep e pl lf c)
 | .skip,_=>.nor λ_ _ _ _ _ h=>wpIn_skip h
 | .label _,_=>.nor λ_ _ _ _ _ h=>wpIn_label h
 | .region id ops d,i=>by
  cases d with
  |true=>
   simp only[lY];split
   ·split
    ·rename_i l;exact(eU.draw k j (asi i) (ayQ l) (aEQ l)).le λfr h=>aIB fr h
    ·exact aHT k j (asi i)
   ·exact .bad
  |false=>
   have:=eU.region (keep:=keep) (id:=id) j (λo n=>by simp only[codeOk,c!]at i;exact i o n);exact this.le λfr h=>apY _ [] [] [] fr h (λ_ h=>by cases h) (EqE.refl _)
 | .seq a b,i=>by simp only[codeOk,b!]at i;exact .seq (eF k j pl lf a i.1) (eF k j pl lf b i.2)
 | .cond c a b,i=>by
  simp only[codeOk,b!]at i;simp only[lY,aAT];refine .cond (λg m=>?_) (eF k j pl lf a i.2.1) (eF k j pl lf b i.2.2);subst m;simpa[n!]using i.1
 | .block id b,i=>.block (eF k j pl lf b i)
 | .loop b,i=>.loop (eF k j pl lf b i) lf
 | .exit id,_=>λ_ _ _ fr h M a w _ at_=>wpIn_exit ⟨rfl,M,at_,.refl at_.rel⟩
 | .ret,_=>λ_ _ _ fr h M a w _ at_=>wpIn_ret ⟨M,at_,.refl at_.rel⟩
 | .scope b,i=>.scope (eF k j pl lf b i)
 | .goto _,_=>.bad
 | .rangeFunc ..,_=>.bad
 | .refuse _,_=>.bad
def dO(P:Program)(G:Nat)(keep:Nat->Bool)(e:FuncId->Option Fun)(pl:bY)(lf:Nat)(fn:Func):Fun:=match fn.body with
 |some c=>aY P keep fn.ntmps fn.results.toList (lY P G fn.ntmps keep e pl lf c)
 |none=>λ_ _=>.bad
def bF(g:P.follows .mixedOrders=true){f:FuncId}{fn:Func}{pl:bY}{lf:Nat}(b:∀f F,e f=some F->aG P G f F)(d:P.funcs[f]?=some fn)(a:aul G fn=true):aG P G f (dO P G keep e pl lf fn):=by
 unfold aul at a;simp only[b!,C!]at a;unfold dO;cases hb:fn.body with
 |none=>rw[hb]at a;cases a.1
 |some c=>
  rw[hb]at a;exact aAY d a.2 hb (eF g b pl lf c a.1)
end
section
variable{P:Program}{G:Nat}{M:Mp}{h h':Hp}{w:World}
def Rel.store1(B:Rel G M h w){i:Pos}{cs k:List V}{L:Loc}{o:Nat}{v:V}{c:Value}{t:TypeId}{f:Bool}(hi:h.get i=some (.cells (.rw t f) cs))(s:M i=some L)(z:jo o [v] cs=some k)(N:Rp M v c)(C:scalar c=true):
  (∃u,w.cell? (L.at o)=some u)/\w.frozen? (L.at o)=false/\Rel G M (h.put i (some (.cells (.rw t f) k))) (w.setCell (L.at o) c)/\Ext M h w M (h.put i (some (.cells (.rw t f) k))) (w.setCell (L.at o) c):=by
 obtain⟨w',E,H,I⟩:=B.store (P:=default) hi s z (xs:= [c]) ⟨c,[],N,rfl,rfl⟩ (by simpa using C);obtain⟨p,_⟩:=Gi o [v] z;obtain⟨O,n,Q,el,fr,hb,K,m,r⟩:=B.ob i _ hi;rw[s]at n;cases n;simp at p;obtain⟨x,q,_⟩:=m o cs[o] (List.getElem?_eq_getElem (by omega));have J:=(e!.1 q).1;have y:w.cell? (L.at o)=some x:=by simp[World.cell?,Loc.at,hb,q]
 have b:w.frozen? (L.at o)=false:=by
  have:=r.2.1 (L.off+o) (by omega) (by omega);simp only[World.frozen?,Loc.at,hb];rw[<-Bool.not_eq_true];intro hh;rw[b!]at hh;exact this ⟨of_decide_eq_true hh.1,of_decide_eq_true hh.2⟩
 have d:=run_storeCells_cells (P:=default) L.blk (L.off+o) [c] 0 w
  (λj hj=>by
   simp at hj;subst hj;show(w.cell? (L.at o)).isSome=true;rw[y];rfl)
  (λj hj=>by simp at hj;subst hj;exact b)
  (λv D=>by simp at D;subst D;exact S9 C)
 simp only[e?]at d;have e:w'=w.setCell (L.at o) c:=by
  have e1:(storeCells (L.at o) [c]).run default w=.ok () (w.setCells L.blk (L.off+o) [c]):=d;rw[E]at e1;cases e1;rfl
 subst e;exact⟨⟨x,y⟩,b,H,I⟩
def WB(k c:IntKind):Bool:=g! (kix k) (kix c)
def abp(k:IntKind):Fun:=λargs h=>match args with
 | [x]=>tq x λi o=>dV h i λ_ cs=>match MH o cs with
  |some v=>(match v with
   | .int c n=>(match WB k c with|true=>.ok (.int k n) h|false=>.bad)
   |_=>.bad)
  |none=>.bad
 |_=>.bad
def OM:Fun:=λargs h=>match args with
 | [x,y]=>(match y with
  | .int k n=>tq x λi o=>dV h i λwr cs=>(match wr with
   | .rw t f=>(match jo o [.int k n] cs with|some c=>.ok V.undef (h.put i (some (.cells (.rw t f) c)))|none=>.bad)
   | .ro=>.bad)
  |_=>.bad)
 |_=>.bad
def Zk(k:IntKind):Fun:=λargs h=>match args with
 | [x,y]=>(match y with
  | .int e m=>tq x λi o=>dV h i λwr cs=>(match MH o cs with
   |some v=>(match v with
    | .int d n=>(match WB k d,WB k e with
     |true,true=>(match wr with
      | .rw t f=>(match iM k (xq k (n+m)) h with
       | .ok s _=>(match jo o [s] cs with|some c=>.ok s (h.put i (some (.cells (.rw t f) c)))|none=>.bad)
       | .bad=>.bad)
      | .ro=>.bad)
     |_,_=>.bad)
    |_=>.bad)
   |none=>.bad)
  |_=>.bad)
 |_=>.bad
def aaI{k c:IntKind}(h:WB k c=true):k=c:=MN h
variable{f:FuncId}{fn:Func}(b:P.funcs[f]?=some fn)(a:(fn.name== "runtime.NumGoroutine")=false)(hb:fn.body.isNone=true)(hn:U! fn=none)
include b a hb hn
def ay5(k:IntKind)(t:q! fn=some (Extern.Atomic.loadT (.int k))):aG P G f (abp k):=by
 intro args h r h' M w cargs e j q;unfold abp at e;split at e
 ·rename_i x;obtain⟨i,o,rfl,e1⟩:=l7 e;clear e;obtain⟨wr,cs,hi,e⟩:=gQ e1;clear e1;obtain⟨c,d,s,C,rfl⟩:=q;rw[show d= [] from C];obtain⟨L,p,rfl⟩:=s.ptr;rw[nY]at e;split at e
  ·rename_i v z;split at e
   ·rename_i D n;split at e
    ·rename_i u;have:=aaI u;subst this;cases e;obtain⟨y,B,m,_⟩:=j.cell hi p z;cases m.int;rw[show [J! (some (L.at o))].toArray= #[.pointer (some (L.at o))] from rfl,run_call_load b a hb hn k t B];exact⟨M,gU M _ _,j,.refl j⟩
    ·cases e
   ·cases e
  ·cases e
 ·cases e
def afV(z:q! fn=some Extern.Atomic.storeT):aG P G f OM:=by
 intro args h r h' M w cargs e C t;unfold OM at e;split at e
 ·rename_i x y;split at e
  ·rename_i k n;obtain⟨i,o,rfl,e1⟩:=l7 e;clear e;obtain⟨wr,cs,hi,e⟩:=gQ e1;clear e1;obtain⟨c,m,v,⟨d,ds,hd,E,rfl⟩,rfl⟩:=t;rw[show ds= [] from E];obtain⟨L,s,rfl⟩:=v.ptr;cases hd.int;split at e
   ·split at e
    ·rename_i B;cases e;obtain⟨⟨u,D⟩,j,p,q⟩:=C.store1 (qK hi) s B (gU M k n) rfl;rw[show [J! (some (L.at o)),.int k n].toArray= #[.pointer (some (L.at o)),.int k n] from rfl,run_call_store b a hb hn z D j];exact⟨M,pF M,p,q⟩
    ·cases e
   ·cases e
  ·cases e
 ·cases e
def anO(k:IntKind)(J:q! fn=some (Extern.Atomic.update (Op.intArith .add) k true)):aG P G f (Zk k):=by
 intro args h r h' M w cargs e B H;unfold Zk at e;split at e
 ·rename_i x y;split at e
  ·rename_i U m;obtain⟨i,o,rfl,e1⟩:=l7 e;clear e;obtain⟨wr,cs,hi,e⟩:=gQ e1;clear e1;obtain⟨c,C,I,⟨d,ds,hd,Q,rfl⟩,rfl⟩:=H;rw[show ds= [] from Q];obtain⟨L,u,rfl⟩:=I.ptr;cases hd.int;rw[nY]at e;split at e
   ·rename_i v O;split at e
    ·rename_i S n;split at e
     ·rename_i K p;have:=aaI K;subst this;have:=aaI p;subst this;obtain⟨z,t,q,_⟩:=B.cell hi u O;cases q.int;split at e
      ·rw[gZ,Ac]at e;simp only[]at e;split at e
       ·rename_i N;cases e;obtain⟨_,j,D,E⟩:=B.store1 (qK hi) u N (gU M k (k.wrap (n+m))) rfl;rw[show [J! (some (L.at o)),.int k m].toArray= #[.pointer (some (L.at o)),.int k m] from rfl,run_call_add b a hb hn k J t j (s:=k.wrap (n+m)) rfl];exact⟨M,gU M _ _,D,E⟩
       ·cases e
      ·cases e
     ·cases e
    ·cases e
   ·cases e
  ·cases e
 ·cases e
def aue:Fun:=λargs h=>match args with| [x]=>.ok x h|_=>.bad
def auX(m:q! fn=some Extern.AbiNoEscape.same):aG P G f aue:=by
 intro args h r h' M w cargs e i j;unfold aue at e;split at e
 ·cases e;obtain⟨c,d,k,n,rfl⟩:=j;rw[show d= [] from n,run_callFunc_extern b a hb hn m];exact⟨M,k,i,.refl i⟩
 ·cases e
def afH(el:TypeId):Fun:=λargs h=>match args with
 | [x]=>(match x with
  | .int k n=>(match WB .i64 k with
   |true=>(match n with
    | .ofNat n=>(match k! n 140737488355328 with
     |true=>.ok (.slice h.next 0 n (.un 1)) (h.new (.cells (.rw el false) []))
     |false=>.bad)
    | .negSucc _=>.bad)
   |false=>.bad)
  |_=>.bad)
 |_=>.bad
def ar2{ps:Array TypeId}{t el:TypeId}(B:P.underlying t=some (.slice el))(y:q! fn=some (Extern.BytealgMakeNoZero.makeNoZero ps #[t])):aG P G f (afH el):=by
 intro args h r h' M w cargs e z s;unfold afH at e;split at e
 ·rename_i x;split at e
  ·rename_i k D;split at e
   ·rename_i m;have:=aaI m;subst this;split at e
    ·rename_i n;split at e
     ·rename_i d;have d:=l! d;cases e;obtain⟨c,j,u,C,rfl⟩:=s;rw[show j= [] from C];cases u.int;obtain⟨cs,i,p,q⟩:=Go.Lib.run_makeNoZero (P:=P) w ps t el B n (by omega);rw[run_callFunc_extern b a hb hn y];rw[show [k? .i64 (Int.ofNat n)].toArray= #[k? .i64 (n:Int)] from rfl,i];have:=z.new (.cells (.rw el false) []) (.cells cs el (0,0)) cs.size (w':=w.drew.drew.alloc (.cells cs el)) rfl rfl rfl rfl
       (λN _=>⟨cs,el,(0,0),by simp only[World.alloc];exact Array.getElem?_push_size,rfl,λk v m=>(by simp at m),rfl,λk _ _ h=>(by simp at h),λh=>(by cases h)⟩)
      refine⟨_,?_,this.1,this.2.1⟩;exact jh (o:=0) (M.fF h.next ⟨w.heap.size,0,cs.size⟩) ⟨⟨p,q (by unfold maxLen;omega)⟩,by show 0+0+cs.size*1=cs.size;omega⟩
     ·cases e
    ·cases e
   ·cases e
  ·cases e
 ·cases e
end
section
variable{P:Program}{G:Nat}{M:Mp}{h:Hp}{w:World}
def aW:∀f F,(λ_=>none:FuncId->Option Fun) f=some F->aG P G f F:=λ_ _ h=>by cases h
def aQ{g:FuncId}{F:Fun}{e:FuncId->Option Fun}(b:aG P G g F)(c:∀f F,e f=some F->aG P G f F):∀f a,(λf=>match g! f g with|true=>some F|false=>e f:FuncId->Option Fun) f=some a->aG P G f a:=by
 intro f a h;simp only[]at h;split at h
 ·rename_i hb;cases h;rw[a! hb];exact b
 ·exact c f a h
def lf:Nat:=10000000000000000000
def codeOf(fn:Func):Code:=fn.body.getD .skip
structure Seen (G:Nat) (M:Mp) (h:Hp) (w:World):Prop where
 rel:Rel G M h w
 un:∀i o,h.get i=some o->o.own=false
def h0(G:Nat):Hp:=⟨.nil,Pos.of G⟩
def m0(G:Nat):Mp:=λp=>if p.nat<G then some ⟨p.nat,0,0⟩ else none
def afO(G:Nat)(i:Pos):(h0 G).get i=none:=T.get_nil i
def Seen.empty(G:Nat)(w:World):Seen G (m0 G) (h0 G) w:=by
 refine⟨⟨λi o hi=>?_,λi hi=>?_,λi j o p L K _ hi=>?_,λg a=>⟨0,?_⟩⟩,λi o hi=>?_⟩
 ·rw[afO]at hi;cases hi
 ·have:G<=i.nat:=by have:=hi;rw[show(h0 G).next=Pos.of G from rfl,Pos.gG]at this;exact this
  unfold m0;rw[if_neg (by omega)]
 ·rw[afO]at hi;cases hi
 ·unfold m0;rw[Pos.gG,if_pos a]
 ·rw[afO]at hi;cases hi
def ayZ{f:FuncId}{F:Fun}{fn:Func}{c:Code}(l:aG P G f F)(n:P.funcs[f]?=some fn)(hn:(fn.name== "runtime.NumGoroutine")=false)(hb:fn.body=some c)(S:Seen G M h w){args:List V}{cargs:List Value}(m:cO M args cargs){h':Hp}
  (e:F args h=.ok (.bool true) h'):Calls P f cargs.toArray w λe w'=>e=.returned (.bool true)/\Below w.heap.size w w':=by
 have:=l args h _ h' M w cargs e S.rel m;have a:(callFunc f cargs.toArray).run P w=.ok (.enter f cargs.toArray) w:=by
  unfold callFunc;rw[Sem.run_bind,run_program];have d:¬fn.name= "runtime.NumGoroutine" :=by simpa using hn
  simp[n,d,hb]
 rw[a]at this;refine Calls.mono this ?_;rintro e w' ⟨r,rfl,M',q,j,b⟩;have:=q.bool
 subst this;refine⟨rfl,b.os,b.tape,b.output,b.size,λk p=>b.same k p λi o L hi g _=>?_⟩;rw[S.un i o hi]at g;cases g
def Opq.mono{p q:Value->World->Prop}(a:∀c w,p c w->q c w){r:Result Next}(h:Opq P p r):Opq P q r:=by
 unfold Opq at h⊢;split at h
 ·exact a _ _ h
 ·exact a _ _ h
 ·exact Calls.mono h λe w' ⟨c,e1,e2⟩=>⟨c,e1,a _ _ e2⟩
 ·exact h.elim
def Rel.after{w':World}{M':Mp}{h':Hp}(r:Rel G M h w)(x:Ext (m0 G) (h0 G) w M' h' w'):Rel G M h w'/\Ext M h w M h w':=by
 have hb:∀b,b<w.heap.size->w'.heap[b]?=w.heap[b]?:=λb hb=>x.same b hb λi o L hi _ _=>by rw[afO]at hi;cases hi
 refine⟨⟨λi o hi=>?_,r.fresh,r.sep,r.gl⟩,⟨M.le_refl,y! _,x.os,x.tape,x.output,x.size,λb d _=>hb b d,λi o L a b c=>.inr ⟨i,o,L,a,b,c,rfl⟩,λ_ _ h=>h,λi o L a b=>.inr ⟨i,o,L,a,b,rfl⟩,λ_ _ h=>h⟩⟩;obtain⟨L,f,e⟩:=r.ob i o hi;exact⟨L,f,e.of_block (hb _ e.lt)⟩
def FT(c:Nat):List Nat->Int
 | []=> -1
 |d::l=>(match g! d c with
  |true=>0
  |false=>(match FT c l with
   | .ofNat n=>.ofNat (n+1)
   | .negSucc _=> -1))
def aK5(c:Nat)(l:List Nat): -1<=FT c l:=by
 induction l with
 |nil=>simp[FT]
 |cons d l a=>
  simp only[FT];split
  ·omega
  ·split
   ·rename_i n _;have:(0:Int)<=Int.ofNat (n+1):=Int.natCast_nonneg _;omega
   ·omega
def aAH{c:Nat}(f:c<256):∀{s:List Nat},(∀b∈s,b<256)->FT c s=Go.Lib.indexByte (s.map UInt8.ofNat) (UInt8.ofNat c)
 | [],_=>rfl
 |d::l,h=>by
  have g:=aAH f (s:=l) λb hb=>h b (by simp[hb]);have hd:=h d (by simp);have a:=aK5 c l;simp only[FT,b?,Go.Lib.indexByte,<-g];have e:(UInt8.ofNat d==UInt8.ofNat c)=g! d c:=by
   rw[Bool.eq_iff_iff];simp only[beq_iff_eq];exact⟨λh=>by rw[IU hd f h];exact D! c,λh=>by rw[a! h]⟩
  rw[e];cases g! d c with
  |true=>rfl
  |false=>
   simp only[Bool.false_eq_true,if_false];cases hi:FT c l with
   |ofNat n=>
    have:(Int.ofNat n== -1)=false:=by rw[beq_eq_false_iff_ne];intro h;cases h
    rw[this];rfl
   |negSucc n=>
    have:n=0:=by rw[hi]at a;omega
    subst this;rfl
def av3:Fun:=λargs h=>match args with
 | [s,c]=>(match s with
  | .str l=>(match c with
   | .int k n=>(match g! (kix k) 4 with
    |true=>(match n with
     | .ofNat b=>(match o! b 256 with|true=>iM .i64 (FT b l) h|false=>.bad)
     | .negSucc _=>.bad)
    |false=>.bad)
   |_=>.bad)
  |_=>.bad)
 |_=>.bad
def aqn{f:FuncId}{fn:Func}(v:P.funcs[f]?=some fn)(d:(fn.name== "runtime.NumGoroutine")=false)(hb:fn.body.isNone=true)(hn:U! fn=none)(u:q! fn=some Extern.BytealgIndexByte.indexByte):aG P G f av3:=by
 intro args h r h' M w cargs e t a;unfold av3 at e;split at e
 ·rename_i s c;split at e
  ·rename_i l;split at e
   ·rename_i k n;split at e
    ·rename_i x;have p:k=.u8:=by cases k<;>first|rfl|cases x
     subst p;split at e
     ·rename_i b;split at e
      ·rename_i i;have j:b<256:=by simpa[n!]using i
       obtain⟨cs,B,o,⟨z,y,m,q,rfl⟩,rfl⟩:=a;rw[show y= [] from q];obtain⟨hl,rfl⟩:=o.str;have g:=m.int;subst g;rw[gZ]at e;cases e;rw[run_callFunc_extern v d hb hn u,Go.Lib.run_indexByteString];simp only[Result.andThen,Opq];refine⟨M,?_,t,.refl t⟩;have e1:(bts l).data.toList=l.map UInt8.ofNat:=by simp[bts]
       have e2:((Int.ofNat b).toNat.toUInt8)=UInt8.ofNat b:=rfl;rw[e1,e2,<-aAH j hl];exact gU M _ _
      ·cases e
     ·cases e
    ·cases e
   ·cases e
  ·cases e
 ·cases e
end
section
variable{P:Program}{G:Nat}
def ap9(el:TypeId)(h:Hp):R V:=.ok (.slice h.next 0 0 (.kn 0)) (h.new (.cells (.rw el true) []))
def aia(op:BinOp)(a:List (TypeDesc×Nat))(x y:V)(h:Hp):R V:=match x,y with
 | .agg xs,.agg ys=>(match NT a xs.list ys.list with
  |some b=>(match op with| .eql=>fQ b h| .neq=>fQ (not b) h|_=>.bad)
  |none=>.bad)
 |_,_=>.bad
def Aw(a:A)(k:Ob->(Pos->V)->Out):Out:=match a with|some (ob,mk)=>k ob mk|none=>.bad
def aK(n:Nat)(h:Hp):Hp:=⟨h.t,bump n h.next⟩
def aAJ{fn:Func}{keep:Nat->Bool}{e:FuncId->Option Fun}{pl:bY}{l:Nat}{D:F->Hp->Out}(hb:fn.body=some (codeOf fn))(a:lY P G fn.ntmps keep e pl l (codeOf fn)=D){args:List V}(hn:k! args.length fn.ntmps=true)(h:Hp):
  dO P G keep e pl l fn args h=bV P fn.results.toList (D (FK keep 0 args .nil) h):=by
 unfold dO;rw[hb];simp only[aY,hn,a]
end
structure CaseTy (P:Program) (g:Nat) (tU tI tA tR tS:TypeId) (f0 f1 f2:Field):Prop where
 name:P.globalNamed "unicode.CaseRanges" =some g
 glob:(P.globals[g]?).map (·.type)=some tS
 s:P.underlying tS=some (.slice tR)
 r:P.underlying tR=some (.struct #[f0,f1,f2])
 a:P.underlying tA=some (.array 3 tI)
 u:P.underlying tU=some (.int .u32)
 i:P.underlying tI=some (.int .i32)
 ty:(f0.type=tU/\f1.type=tU)/\f2.type=tA
 off:(f0.offset=0/\f1.offset=1)/\f2.offset=2
 cu:P.cellsOf tU=1
 ci:P.cellsOf tI=1
 ca:P.cellsOf tA=3
 cr:P.cellsOf tR=5
section
variable{P:Program}{g:Nat}{tU tI tA tR tS:TypeId}{f0 f1 f2:Field}{w:World}
def awz(C:CaseTy P g tU tI tA tR tS f0 f1 f2){x:CaseRow}(f:rowWf x=true)(n:Nat):z! (λ_=>()) P w 0 (λ_=>true) false (n+3) tR (cells5 x)=some (rowData x,[]):=by
 obtain⟨⟨l,m⟩,t2⟩:=C.ty;obtain⟨⟨h,j⟩,k⟩:=C.off;obtain⟨a,b,c,d,e⟩:=x;simp only[rowWf,b!]at f;obtain⟨⟨⟨⟨o,p⟩,q⟩,s⟩,t⟩:=f;have three:B! 3= [0,1,2]:=rfl;simp[z!,C.r,C.a,C.u,C.i,C.cu,C.ci,C.ca,C.cr,l,m,t2,h,j,k,cells5,rowData,o,p,q,s,t,three]
def awy(C:CaseTy P g tU tI tA tR tS f0 f1 f2){R:Nat}{t:TypeId}{c:Nat×Nat}(hb:w.heap[R]?=some (.cells caseCells5 t c)):
  z! (λ_=>()) P w 0 (λ_=>true) false 4 tS [.slice (some ⟨R,0,none⟩) caseA.size caseA.size]=some (caseData,i! ⟨R,0,none⟩ (caseA.size*5)):=by
 have d:=caseTab_of_block hb;have each:∀k∈B! caseA.size,(w.cells? 0 ((⟨R,0,none⟩:Addr).add (k*5)) 5).bind (z! (λ_=>()) P w 0 (λ_=>true) false 3 tR)=some ((λk=>((rowData (caseA.getD k (0,0,0,0,0)):DataW Unit),([]:List MemPlace))) k):=by
  intro k e;have b:=x!.1 e;rw[case_cells5 d k b];exact awz C (caseA_wf k b) 0
 have a:caseA.size<=maxLen:=by rw[caseA_size];unfold maxLen;omega
 show z! _ _ _ _ _ _ (3+1) _ _=_;rw[DataW.trod_step];unfold DataW.trodStep;simp only[C.s,C.cr];rw[if_pos ⟨E! _,y! _,a⟩,Go.Lib.mapM_some _ _ _ each];have hd:=case_rows_data;simp[caseData,<-hd]
def laid_around(C:CaseTy P g tU tI tA tR tS f0 f1 f2){l1 l2:List (String×DataW Unit)}(fuel:Nat)
  (k1:(p! P w fuel (l1.map (·.1))).map (·.1)=some l1) (k2:(p! P w fuel (l2.map (·.1))).map (·.1)=some l2) {R:Nat} {t:TypeId} (hgR:g≠R)
  (kn:((p! P w fuel (l1.map (·.1))).bind λx=>(p! P w fuel (l2.map (·.1))).map λy=>
   _root_.Go.nodupB ((x.2++y.2).map MemPlace.codeOf)&&(laidRowsB P w (x.2++y.2)&&(x.2++y.2).all λp=>p.block !=g&&p.block !=R))=some true)
  (hvar:w.heap[g]?=some (.cells #[.slice (some ⟨R,0,none⟩) caseA.size caseA.size] tS (0,0))) (hblk:w.heap[R]?=some (.cells caseCells5 t (0,0))):
  laidMet P (l1++("unicode.CaseRanges",caseData)::l2) w:=by
 cases e1:p! P w fuel (l1.map (·.1)) with
 |none=>rw[e1]at k1;cases k1
 |some x1=>
 cases e2:p! P w fuel (l2.map (·.1)) with
 |none=>rw[e2]at k2;cases k2
 |some x2=>
 rw[e1]at k1;rw[e2]at k2;rw[e1,e2]at kn;obtain⟨y1,p1⟩:=x1;obtain⟨y2,p2⟩:=x2;simp only[Option.map_some,Option.some.injEq]at k1 k2;subst k1;subst k2;simp only[Option.bind_some,Option.map_some,Option.some.injEq,b!]at kn;obtain⟨kn1,kn2,kn3⟩:=kn;have hnd:(p1++p2).Nodup:=nodup_of_code kn1;have hoff:∀p∈p1++p2,p.block≠g/\p.block≠R:=λp hp=>by
  have:=c!.1 kn3 p hp;simpa using this
 have hT:=caseTab_of_block hblk;have hmid:DataW.LaidVars P w [("unicode.CaseRanges",caseData)] (i! ⟨g,0,none⟩ 1++i! ⟨R,0,none⟩ (caseA.size*5)++ []):=
  ⟨g,tS,_,_,_,[],C.name,C.glob,by simp[World.var?,C.name,hvar],awy C hblk,rfl,rfl⟩
 have hall:=LaidVars_append (H! e1) (LaidVars_append hmid (H! e2));have hmem:∀p,p∈i! ⟨g,0,none⟩ 1++i! ⟨R,0,none⟩ (caseA.size*5)++ []->(p=.cell g 0)\/∃i,i<caseA.size*5/\p=.cell R i:=by
  intro p hp;rw[X!]at hp;rcases v!.1 hp with hp|hp
  ·obtain⟨i,hi,rfl⟩:=r!.1 hp;obtain rfl:i=0:=by omega
   exact .inl rfl
  ·obtain⟨i,hi,rfl⟩:=r!.1 hp;exact .inr ⟨i,hi,by simp⟩
 have hblockOf:∀p,p∈i! ⟨g,0,none⟩ 1++i! ⟨R,0,none⟩ (caseA.size*5)++ []->p.block=g\/p.block=R:=λp hp=>by
  rcases hmem p hp with rfl|⟨i,_,rfl⟩
  ·exact .inl rfl
  ·exact .inr rfl
 have hmidnd:(i! ⟨g,0,none⟩ 1++i! ⟨R,0,none⟩ (caseA.size*5)++ []).Nodup:=by
  rw[X!];refine t!.2 ⟨row_nodup _ _,row_nodup _ _,λa ha b hb e=>?_⟩;obtain⟨i,_,rfl⟩:=r!.1 ha;obtain⟨j,_,rfl⟩:=r!.1 hb;simp at e;exact hgR e.1
 refine⟨_,hall,?_,λb off hp=>?_⟩
 ·obtain⟨n1,n2,n3⟩:=t!.1 hnd;refine t!.2 ⟨n1,t!.2 ⟨hmidnd,n2,λa ha b hb e=>?_⟩,λa ha b hb e=>?_⟩
  ·subst e;obtain⟨q1,q2⟩:=hoff a (O! _ hb);rcases hblockOf a ha with q|q
   ·exact q1 q
   ·exact q2 q
  ·subst e;obtain⟨q1,q2⟩:=hoff a (Q! _ ha);rcases v!.1 hb with hb|hb
   ·rcases hblockOf a hb with q|q
    ·exact q1 q
    ·exact q2 q
   ·exact n3 a ha a hb rfl
 ·by_cases hin:T! b off∈p1++p2
  ·have:=c!.1 kn2 _ hin;simp only[b!]at this;obtain⟨q1,q2⟩:=this;refine⟨?_,λu v hc=>?_⟩
   ·split at q1
    ·rename_i c t' hh;exact⟨c,t',hh⟩
    ·cases q1
   ·rw[hc]at q2;exact Value.okWide_of_okWideB q2
  ·have hp':T! b off∈i! ⟨g,0,none⟩ 1++i! ⟨R,0,none⟩ (caseA.size*5)++ []:=by
    rcases v!.1 hp with hp|hp
    ·exact absurd (Q! _ hp) hin
    ·rcases v!.1 hp with hp|hp
     ·exact hp
     ·exact absurd (O! _ hp) hin
   rcases hmem _ hp' with e|⟨i,hi,e⟩
   ·cases e;refine⟨⟨_,_,hvar⟩,λu v hc=>?_⟩;rw[Lib.cell_of_heap hvar]at hc;simp at hc
   ·cases e;refine⟨⟨_,_,hblk⟩,λu v hc=>?_⟩;obtain⟨c0,c1,c2,c3,c4⟩:=hT (off / 5) (by omega);have hq:off=0+off / 5*5+off % 5:=by omega
    rw[hq]at hc;have hm:off % 5<5:=Nat.mod_lt _ (by omega);generalize off % 5=k at hc hm
    match k,hm with
    |0,_=>rw[e?,c0]at hc;cases hc
    |1,_=>rw[c1]at hc;cases hc
    |2,_=>rw[c2]at hc;cases hc
    |3,_=>rw[c3]at hc;cases hc
    |4,_=>rw[c4]at hc;cases hc
end
end Go.Vm
