/- Lemmas. No conditions. -/
import Derived.Test.YtpgppmioigacoaaGreatDoorSAF
import Derived.Laws.Externs
import Derived.Laws.LoneSync
import Derived.Lib.Bytealg
import Derived.Lib.MakeNoZero
import Derived.Defers
import Derived.Recover
set_option linter.all false
open Nat renaming eq_of_beq_eq_true→a!,beq→g!,ble_eq_true_of_le→h!,ble→j!,le_of_ble_eq_true→k!,blt_eq→l!,blt→n!,ne_of_beq_eq_false→q!,beq_refl→v!,testBit→w!,le_refl→x!,lor→z!,shiftLeft→D!,lt_or_ge→G!,zero_le→I!,strongRecOn→N!,testBit_or→O!
open List renaming all_eq_true→b!,mem_cons_of_mem→d!,any_eq_true→i!,mem_range→A!,range→J!,mem_cons→P!,map_cons→Q!,mem_map→R!
open Bool renaming and_eq_true→c!,or_eq_true→r!,not_eq_true'→u!
open Array renaming getElem?_eq_some_iff→e!,replicate→o!,getD_eq_getD_getElem?→y!,getElem?_eq_getElem→B!
open Go.Extern renaming find→p!,findNext→L!
open Go.Region renaming binds→t!
open Go.Value renaming pointer→C!,int→X!
noncomputable section
open Go.RowKit
namespace Go.Vm
section
variable{ops:Array Oper}{G N:Nat}
def aNV(a:List Nat)(o:Oper):Nat:=o.after.toList.foldl (λs e=>match t! .any e with
 |true=>z! s (z! (D! 1 e.on) (a.getD e.on 0))
 |false=>s) 0
def zC(a:List Nat)(i' i:Nat):Bool:=w! (a.getD i 0) i'
def each(ops:Array Oper)(p:Nat->Oper->Bool):Bool:=(J! ops.size).all λi=>(match ops[i]? with|some o=>p i o|none=>true)
def sU{p:Nat->Oper->Bool}(h:each ops p=true){i:Nat}{o:Oper}(a:ops[i]?=some o):p i o=true:=by
 simp only[each,b!,A!]at h;have:=h i (e!.1 a).1;rw[a]at this;exact this
def X9(ops:Array Oper)(a:List Nat):Bool:=each ops λi o=>g! (a.getD i 0) (aNV a o)&&o.after.toList.all λe=>match t! .any e with|true=>n! e.on i|false=>true
def aai{d:List Nat}(h:X9 ops d=true){j i:Nat}(a:Edge ops j i):j<i:=by
 obtain⟨o,e,c,b,hb,rfl⟩:=a;have:=sU h c;simp only[c!,b!]at this;have:=this.2 e (by simpa using b);rw[hb]at this;simpa[l!]using this
def arw(d:List Nat):∀(l:List _root_.Go.Edge) (s j:Nat),w! (l.foldl (λs e=>match t! .any e with
 |true=>z! s (z! (D! 1 e.on) (d.getD e.on 0))
 |false=>s) s) j=true->w! s j=true\/∃e∈l,t! .any e=true/\(e.on=j\/w! (d.getD e.on 0) j=true)
 | [],s,j,h=>.inl h
 |e::l,s,j,h=>by
  rcases arw d l _ j h with h|⟨f,c,hb,h⟩
  ·simp only[]at h;split at h
   ·rename_i hb;rw[show ∀a b,z! a b=a|||b from λ_ _=>rfl,show ∀a b,z! a b=a|||b from λ_ _=>rfl,O!,O!]at h;simp only[r!]at h;rcases h with h|h|h
    ·exact .inl h
    ·refine .inr ⟨e,by simp,hb,.inl ?_⟩;rw[show D! 1 e.on=1<<<e.on from rfl,Nat.one_shiftLeft,Nat.testBit_two_pow]at h;simpa using h
    ·exact .inr ⟨e,by simp,hb,.inr h⟩
   ·exact .inl h
  ·exact .inr ⟨f,by simp[c],hb,h⟩
def kG{f:List Nat}(h:X9 ops f=true):∀{i j:Nat},i<ops.size->zC f j i=true->Bef (Edge ops) j i:=by
 intro i;induction i using N! with
 |_ i m=>
  intro j hi d;have k:=B! hi;have g:=sU h k;simp only[c!]at g;unfold zC at d;rw[a! g.1]at d;rcases arw f _ 0 j d with a|⟨e,l,hb,a⟩
  ·simp at a
  ·have b:Edge ops e.on i:=⟨_,e,k,by simpa using l,hb,rfl⟩
   have c:=aai h b;rcases a with a|a
   ·subst a;exact .one b
   ·exact .step (m e.on c (by omega) a) b
def oC:Cls->Bool
 | .heavy=>true
 |_=>false
def nodupB:List Nat->Bool
 | []=>true
 |x::l=>l.all (λy=>!Nat.beq x y)&&nodupB l
def nY(sb:Nat->Nat->Bool)(x y:Nat×Cls×Nat):Bool:=match oC y.2.1 with
 |false=>true
 |true=>(match x.2.1 with
  | .heavy=>(match n! x.2.2 y.2.2 with
   |true=>sb x.1 y.1
   |false=>(match g! x.2.2 y.2.2 with|true=>g! x.1 y.1|false=>true))
  | .alloc=>(match j! x.2.2 y.2.2 with|true=>sb x.1 y.1|false=>true)
  | .read n=>(match j! x.2.2 y.2.2 with
   |true=>sb x.1 y.1
   |false=>(match n! (y.2.2+n) x.2.2 with|true=>sb y.1 x.1|false=>true))
  | .own _=>(match j! x.2.2 y.2.2 with|true=>sb x.1 y.1|false=>true)
  | .ins _=>(match j! x.2.2 y.2.2 with|true=>sb x.1 y.1|false=>true)
  | .pure=>true)
def ownB(ops:Array Oper)(sb:Nat->Nat->Bool)(pl:List (Nat×Cls×Nat))(x:Nat×Cls×Nat):Bool:=match x.2.1 with
 | .own a=>(match ops[a]?,ops[x.1]? with
  |some oa,some o=>(match oa.dst,o.op.operands.toList with
   |some t,[.tmp u]=>g! t u&&(Ih ops sb x.1 t&&(sb a x.1&&pl.any λy=>(match y.2.1 with| .alloc=>g! y.1 a&&g! y.2.2 x.2.2|_=>false)))
   |_,_=>false)
  |_,_=>false)
 |_=>true
def aCC(ops:Array Oper)(sb:Nat->Nat->Bool)(pl:List (Nat×Cls×Nat))(x:Nat×Cls×Nat):Bool:=match x.2.1 with
 | .ins a=>(match ops[a]?,ops[x.1]? with
  |some oa,some o=>(match oa.dst,o.op.operands.toList with
   |some t,.tmp u::_=>g! t u&&(Ih ops sb x.1 t&&(sb a x.1&&pl.any λy=>(match y.2.1 with| .alloc=>g! y.1 a&&g! y.2.2 x.2.2|_=>false)))
   |_,_=>false)
  |_,_=>false)
 |_=>true
def ahv(o:Oper)(t:Nat):Bool:=match o.dst with|some d=>g! d t|none=>false
def aeF(ops:Array Oper)(a:List Nat)(G N:Nat)(plan:Plan):Bool:=
 X9 ops a&&(nodupB (plan.map (·.1))&&((J! ops.size).all (λi=>(plan.map (·.1)).any (g! i))&&(plan.all (λx=>n! x.1 ops.size)&&
  ((phased 0 plan).all (λx=>(phased 0 plan).all (nY (zC a) x))&&
  (each ops (λi o=>match o.guard with|some (g,_)=>zC a g i|none=>true)&&
  (each ops (λi o=>match o.dst with|some t=>each ops (λi' o'=>match ahv o' t with|true=>g! i i'|false=>true)|none=>true)&&
  (each ops (λi o=>o.op.operands.toList.all λx=>match x with
   | .tmp t=>(match Ih ops (zC a) i t with
    |true=>true
    |false=>each ops λi' o'=>(match ahv o' t with|true=>g! i i'||zC a i i'|false=>true))
   |_=>true)&&
  (ops.toList.all (nZ G N)&&((phased 0 plan).all (ownB ops (zC a) (phased 0 plan))&&(phased 0 plan).all (aCC ops (zC a) (phased 0 plan)))))))))))
def aeP:∀{l:List Nat},nodupB l=true->l.Nodup
 | [],_=>List.nodup_nil
 |x::l,h=>by
  simp only[nodupB,c!,b!,u!]at h;refine List.nodup_cons.2 ⟨λa=>?_,aeP h.2⟩;have:=h.1 x a
  exact absurd rfl (q! this)
def Bv{j:Nat}:∀{j₀:Nat} {l:Plan},j₀<=j->j<j₀+bH l->∃i,(i,.heavy,j)∈phased j₀ l
 |j₀,[],d,b=>by simp[bH]at b;omega
 |j₀,(i,c)::l,d,b=>by
  cases c with
  |heavy=>
   by_cases e:j=j₀
   ·subst e;exact⟨i,by simp[phased]⟩
   ·obtain⟨i',h⟩:=Bv (j:=j) (j₀:=j₀+1) (l:=l) (by omega) (by simp only[bH]at b;omega);exact⟨i',d! _ h⟩
  |pure=>
   obtain⟨i',h⟩:=Bv (j:=j) (j₀:=j₀) (l:=l) d (by simpa only[bH]using b);exact⟨i',d! _ h⟩
  |read n=>
   obtain⟨i',h⟩:=Bv (j:=j) (j₀:=j₀) (l:=l) d (by simpa only[bH]using b);exact⟨i',d! _ h⟩
  |alloc=>
   obtain⟨i',h⟩:=Bv (j:=j) (j₀:=j₀) (l:=l) d (by simpa only[bH]using b);exact⟨i',d! _ h⟩
  |own a=>
   obtain⟨i',h⟩:=Bv (j:=j) (j₀:=j₀) (l:=l) d (by simpa only[bH]using b);exact⟨i',d! _ h⟩
  |ins a=>
   obtain⟨i',h⟩:=Bv (j:=j) (j₀:=j₀) (l:=l) d (by simpa only[bH]using b);exact⟨i',d! _ h⟩
def oO{i:Nat}:∀{j₀:Nat} {l:Plan},i∈l.map (·.1)->∃c j,(i,c,j)∈phased j₀ l
 |j₀,(i',c)::l,h=>by
  rw[Q!]at h;rcases P!.1 h with d|d
  ·cases d;exact⟨c,j₀,by simp[phased]⟩
  ·cases c with
   |heavy=>obtain⟨b,j,h⟩:=oO (j₀:=j₀+1) d;exact⟨b,j,d! _ h⟩
   |pure=>obtain⟨b,j,h⟩:=oO (j₀:=j₀) d;exact⟨b,j,d! _ h⟩
   |read n=>obtain⟨b,j,h⟩:=oO (j₀:=j₀) d;exact⟨b,j,d! _ h⟩
   |alloc=>obtain⟨b,j,h⟩:=oO (j₀:=j₀) d;exact⟨b,j,d! _ h⟩
   |own a=>obtain⟨b,j,h⟩:=oO (j₀:=j₀) d;exact⟨b,j,d! _ h⟩
   |ins a=>obtain⟨b,j,h⟩:=oO (j₀:=j₀) d;exact⟨b,j,d! _ h⟩
def aay{o:Oper}{t:Nat}(h:o.dst=some t):ahv o t=true:=by simp[ahv,h]
def aDY{O:List Nat}{plan:Plan}(h:aeF ops O G N plan=true):Static ops (Edge ops) (zC O) G N plan:=by
 simp only[aeF,c!]at h;obtain⟨r,P,Q,S,U,W,X,Y,Z,H,I⟩:=h;have f:∀{i c j},(i,c,j)∈phased 0 plan->i<ops.size:=λ{i c j} z=>by
  obtain⟨⟨i',c'⟩,L,rfl⟩:=R!.1 (xO z);have:=b!.1 S _ L;simpa[l!]using this
 have pr:∀x y,x∈phased 0 plan->y∈phased 0 plan->nY (zC O) x y=true:=λx y M D=>
  b!.1 (b!.1 U x M) y D
 refine⟨λi hi=>?_,aeP P,λj hj=>?_,λi j i' j' a b hl=>?_,λi i' j a b=>?_,λi j i' j' a b hl=>?_,λi n j i' j' a b hl=>?_,λi n j i' j' a b hl=>?_,λi n j i' j' a b hl=>?_,λi x j z=>?_,λi n j i' j' a b hl=>?_,λi x j z=>?_,
  λi o g b q hg=>?_,λi i' o o' t q m hd J=>?_,λi t hi p=>?_,λi o t q M p i' o' m hd=>?_,λo q=>b!.1 Z o q⟩
 ·have:=b!.1 Q i (A!.2 hi);rw[i!]at this;obtain⟨k,hk,hb⟩:=this;rw[a! hb];exact oO hk
 ·obtain⟨i,hi⟩:=Bv (j₀:=0) (l:=plan) (I! j) (by omega);exact⟨i,hi,f hi⟩
 ·have:=pr _ _ a b;simp only[nY,oC,show n! j j'=true from by simpa[l!]using hl]at this;exact kG r (f b) this
 ·have:=pr _ _ a b;have K:n! j j=false:=by
   cases hb:n! j j with
   |false=>rfl
   |true=>have:=k! hb;omega
  simp only[nY,oC,K,show g! j j=true from v! j]at this;exact a! this
 ·have:=pr _ _ a b;simp only[nY,oC,show j! j j'=true from h! hl]at this;exact kG r (f b) this
 ·have:=pr _ _ a b;simp only[nY,oC,show j! j j'=true from h! hl]at this;exact kG r (f b) this
 ·have:=pr _ _ a b;have hn:j! j j'=false:=by
   cases hb:j! j j' with
   |false=>rfl
   |true=>have:=k! hb;omega
  simp only[nY,oC,hn,show n! (j'+n) j=true from by simpa[l!]using hl]at this;exact kG r (f a) this
 ·have:=pr _ _ a b;simp only[nY,oC,show j! j j'=true from h! hl]at this;exact kG r (f b) this
 ·have:=b!.1 H _ z;unfold ownB at this;simp only[]at this;split at this
  ·rename_i oa o B q;split at this
   ·rename_i t u C s;simp only[c!]at this;obtain⟨e1,e2,E,e⟩:=this;have e1:=a! e1;subst e1;rw[i!]at e;obtain⟨⟨y1,y2,y3⟩,D,e⟩:=e;simp only[]at e;split at e
    ·simp only[c!]at e;have v:=a! e.1;have w:=a! e.2;subst v;subst w;exact⟨D,kG r (f z) E,oa,o,t,B,C,q,s,e2⟩
    ·cases e
   ·cases this
  ·cases this
 ·have:=pr _ _ a b;simp only[nY,oC,show j! j j'=true from h! hl]at this;exact kG r (f b) this
 ·have:=b!.1 I _ z;unfold aCC at this;simp only[]at this;split at this
  ·rename_i oa o B q;split at this
   ·rename_i t u rest C s;simp only[c!]at this;obtain⟨e1,e2,E,e⟩:=this;have e1:=a! e1;subst e1;rw[i!]at e;obtain⟨⟨y1,y2,y3⟩,D,e⟩:=e;simp only[]at e;split at e
    ·simp only[c!]at e;have v:=a! e.1;have w:=a! e.2;subst v;subst w;exact⟨D,kG r (f z) E,oa,o,t,rest,B,C,q,s,e2⟩
    ·cases e
   ·cases this
  ·cases this
 ·have:=sU W q;simp only[hg]at this;exact kG r (e!.1 q).1 this
 ·have:=sU X q;simp only[hd]at this;have:=sU this m;simp only[aay J]at this;exact a! this
 ·unfold Ih at p;rw[i!]at p;obtain⟨i',aa,p⟩:=p;split at p
  ·rename_i o' m;split at p
   ·rename_i d hd;split at p
    ·rename_i hb;exact⟨i',o',m,by rw[hd,a! hb],kG r hi p⟩
    ·cases p
   ·cases p
  ·cases p
 ·have:=sU Y q;have:=b!.1 this _ M;simp only[p]at this;have:=sU this m;simp only[aay hd,r!]at this;rcases this with h|h
  ·exact .inl (a! h)
  ·exact .inr (kG r (e!.1 m).1 h)
def ax3{b:List Nat}{plan:Plan}(h:aeF ops b G N plan=true):∀j i,Edge ops j i->j<i:=by
 unfold aeF at h;rw[c!]at h;exact λj i a=>aai h.1 a
end
abbrev bQ:=Nat->Option (List Nat×Plan)
section
variable{ops:Array Oper}{G N:Nat}
def ahb(ops:Array Oper)(sb a:Nat->Nat->Bool)(G N:Nat)(plan:Plan):Bool:=
 (nodupB (plan.map (·.1))&&((J! ops.size).all (λi=>(plan.map (·.1)).any (g! i))&&(plan.all (λx=>n! x.1 ops.size)&&
  ((phased 0 plan).all (λx=>(phased 0 plan).all (nY a x))&&
  (each ops (λi o=>match o.guard with|some (g,_)=>sb g i|none=>true)&&
  (each ops (λi o=>match o.dst with|some t=>each ops (λi' o'=>match ahv o' t with|true=>g! i i'|false=>true)|none=>true)&&
  (each ops (λi o=>o.op.operands.toList.all λx=>match x with
   | .tmp t=>(match Ih ops sb i t with
    |true=>true
    |false=>each ops λi' o'=>(match ahv o' t with|true=>g! i i'||sb i i'|false=>true))
   |_=>true)&&
  (ops.toList.all (nZ G N)&&((phased 0 plan).all (ownB ops sb (phased 0 plan))&&(phased 0 plan).all (aCC ops sb (phased 0 plan)))))))))))
def aq5{Ed:Nat->Nat->Prop}{sb E:Nat->Nat->Bool}{plan:Plan}(v:∀{i j},i<ops.size->sb j i=true->Bef Ed j i)(q:∀{i j},i<ops.size->E j i=true->Bef Ed j i)
  (h:ahb ops sb E G N plan=true):Static ops Ed sb G N plan:=by
 simp only[ahb,c!]at h;obtain⟨Q,S,U,W,X,Y,Z,h9,J,K⟩:=h;have f:∀{i c j},(i,c,j)∈phased 0 plan->i<ops.size:=λ{i c j} B=>by
  obtain⟨⟨i',c'⟩,O,rfl⟩:=R!.1 (xO B);have:=b!.1 U _ O;simpa[l!]using this
 have pr:∀x y,x∈phased 0 plan->y∈phased 0 plan->nY E x y=true:=λx y P H=>
  b!.1 (b!.1 W x P) y H
 refine⟨λi hi=>?_,aeP Q,λj hj=>?_,λi j i' j' a b hl=>?_,λi i' j a b=>?_,λi j i' j' a b hl=>?_,λi n j i' j' a b hl=>?_,λi n j i' j' a b hl=>?_,λi n j i' j' a b hl=>?_,λi x j B=>?_,λi n j i' j' a b hl=>?_,λi x j B=>?_,
  λi o g b r hg=>?_,λi i' o o' t r m hd L=>?_,λi t hi p=>?_,λi o t r P p i' o' m hd=>?_,λo r=>b!.1 h9 o r⟩
 ·have:=b!.1 S i (A!.2 hi);rw[i!]at this;obtain⟨k,hk,hb⟩:=this;rw[a! hb];exact oO hk
 ·obtain⟨i,hi⟩:=Bv (j₀:=0) (l:=plan) (I! j) (by omega);exact⟨i,hi,f hi⟩
 ·have:=pr _ _ a b;simp only[nY,oC,show n! j j'=true from by simpa[l!]using hl]at this;exact q (f b) this
 ·have:=pr _ _ a b;have M:n! j j=false:=by
   cases hb:n! j j with
   |false=>rfl
   |true=>have:=k! hb;omega
  simp only[nY,oC,M,show g! j j=true from v! j]at this;exact a! this
 ·have:=pr _ _ a b;simp only[nY,oC,show j! j j'=true from h! hl]at this;exact q (f b) this
 ·have:=pr _ _ a b;simp only[nY,oC,show j! j j'=true from h! hl]at this;exact q (f b) this
 ·have:=pr _ _ a b;have hn:j! j j'=false:=by
   cases hb:j! j j' with
   |false=>rfl
   |true=>have:=k! hb;omega
  simp only[nY,oC,hn,show n! (j'+n) j=true from by simpa[l!]using hl]at this;exact q (f a) this
 ·have:=pr _ _ a b;simp only[nY,oC,show j! j j'=true from h! hl]at this;exact q (f b) this
 ·have:=b!.1 J _ B;unfold ownB at this;simp only[]at this;split at this
  ·rename_i oa o C r;split at this
   ·rename_i t u D s;simp only[c!]at this;obtain⟨e1,e2,I,e⟩:=this;have e1:=a! e1;subst e1;rw[i!]at e;obtain⟨⟨y1,y2,y3⟩,H,e⟩:=e;simp only[]at e;split at e
    ·simp only[c!]at e;have w:=a! e.1;have z:=a! e.2;subst w;subst z;exact⟨H,v (f B) I,oa,o,t,C,D,r,s,e2⟩
    ·cases e
   ·cases this
  ·cases this
 ·have:=pr _ _ a b;simp only[nY,oC,show j! j j'=true from h! hl]at this;exact q (f b) this
 ·have:=b!.1 K _ B;unfold aCC at this;simp only[]at this;split at this
  ·rename_i oa o C r;split at this
   ·rename_i t u rest D s;simp only[c!]at this;obtain⟨e1,e2,I,e⟩:=this;have e1:=a! e1;subst e1;rw[i!]at e;obtain⟨⟨y1,y2,y3⟩,H,e⟩:=e;simp only[]at e;split at e
    ·simp only[c!]at e;have w:=a! e.1;have z:=a! e.2;subst w;subst z;exact⟨H,v (f B) I,oa,o,t,rest,C,D,r,s,e2⟩
    ·cases e
   ·cases this
  ·cases this
 ·have:=sU X r;simp only[hg]at this;exact v (e!.1 r).1 this
 ·have:=sU Y r;simp only[hd]at this;have:=sU this m;simp only[aay L]at this;exact a! this
 ·unfold Ih at p;rw[i!]at p;obtain⟨i',aa,p⟩:=p;split at p
  ·rename_i o' m;split at p
   ·rename_i d hd;split at p
    ·rename_i hb;exact⟨i',o',m,by rw[hd,a! hb],v hi p⟩
    ·cases p
   ·cases p
  ·cases p
 ·have:=sU Z r;have:=b!.1 this _ P;simp only[p]at this;have:=sU this m;simp only[aay hd,r!]at this;rcases this with h|h
  ·exact .inl (a! h)
  ·exact .inr (v (e!.1 m).1 h)
end
section
variable{P:Program}{e:FuncId->Option Fun}{Ed:Nat->Nat->Prop}{ops:Array Oper}{sb:Nat->Nat->Bool}{fr:F}{keep:Nat->Bool}{G N:Nat}{Df:List Deferred}
variable{T:Tr}{plan:Plan}{M:Mp}{h f:Hp}{w:World}{L:Array Bool}{j:Nat}{a:Act}{i:Nat}{out:Out}{k:Env->Hp->Out}
def aEn(S:Static ops Ed sb G N plan)(t:Told P e ops sb fr k plan [] ⟨h.t,bump (jw plan) h.next⟩ ⟨h.t,bump (jw plan) h.next⟩ [] [] h.next out T):Made T ops Ed plan h.next:=by
 refine⟨λi j p ob s=>?_,t.a2,t.a3,λj=>?_,λi j p x y m=>?_,t.i2,t.i4⟩
 ·obtain⟨c,g,d,q,r⟩:=t.a1 i j p ob s;exact⟨c,d,q,r⟩
 ·by_cases hj:j=0
  ·subst hj;have u:T.Bs 0=_:=t.tBase;rw[u];refine⟨λx n=>?_,t.cn⟩;have:=t.cs x n
   rw[show([]:List Hp).length=0 from rfl]at this;rw[this,Yu λy v hj b=>?_]
   ·cases(Hp.get ⟨h.t,bump (jw plan) h.next⟩ x) with
    |none=>rfl
    |some o=>simp[LZ]
   ·exfalso;obtain⟨i',j',C,E,H⟩:=y;have hj:j'=0:=hj;have b:C=x:=b;subst hj;subst b;obtain⟨c,_,_⟩:=t.i1 _ _ _ _ _ v;rcases c with⟨_,e2,D,l⟩|⟨a,ob,c⟩
    ·rw[e2]at l;cases l
    ·exact n a ob c
  ·exact t.ct j (by simp;omega)
 ·obtain⟨_,⟨a,g⟩,d⟩:=t.i1 _ _ _ _ _ m;obtain⟨z,B⟩:=avq S t.steps t.i2 m g d;exact⟨a,g,z,B,d⟩
def aCL(S:Static ops Ed sb G N plan)(t:Told P e ops sb fr k plan [] ⟨h.t,bump (jw plan) h.next⟩ ⟨h.t,bump (jw plan) h.next⟩ [] [] h.next out T)(at_:At keep G N Df M fr h a w):
  Inv T ops Ed plan keep fr G N Df M h w (o! ops.size false) M (T.Bs 0) 0 a {w with drawn:=w.drawn+1}:=by
 have b:T.Bs 0=⟨h.t,bump (jw plan) h.next⟩:=t.tBase;have g:(T.Bs 0).next.nat=h.next.nat+jw plan:=by rw[b];exact akU _ _
 have z:({w with drawn:=w.drawn+1}:World).heap=w.heap:=rfl;have n:Rel G M (T.Bs 0) {w with drawn:=w.drawn+1}:=by
  refine(at_.rel.heap z).sub (λi o hi=>?_) (by rw[g];omega);rw[b]at hi;exact hi
 have q:Ext M h w M (T.Bs 0) {w with drawn:=w.drawn+1}:=by
  have l:=Ext.refl at_.rel;refine⟨l.le,by rw[g];omega,rfl,rfl,rfl,x! _,λ_ _ _=>rfl,λi o L hi=>?_,λi _ hi=>?_,λi o L hi=>?_,l.none⟩
  ·rw[b]at hi;exact l.own i o L hi
  ·rw[b];exact hi
  ·rw[b]at hi;exact l.all i o L hi
 have c:∀i,(o! ops.size false).getD i false=false:=λi=>by
  rw[y!,Array.getElem?_replicate];split<;>rfl
 refine⟨by simp,λi k _ hk=>?_,I! _,λi j' _=>?_,n,rfl,λi j' p ob _ hl=>?_,λ_ _=>rfl,λi j' p ob m _=>?_,λi j' p ob m _=>?_,λi o d v hl=>?_,λt' v _ y=>at_.fr t' v y,at_.size,at_.plain,q⟩
 ·rw[c]at hk;cases hk
 ·rw[c];simp
 ·rw[c]at hl;cases hl
 ·obtain⟨r,s,_⟩:=t.a1 i j' p ob m;refine⟨?_,by rw[g];exact s⟩;cases u:(T.Bs 0).get p with
  |none=>rfl
  |some o'=>
   rw[b]at u;obtain⟨L,x,_⟩:=at_.rel.ob p o' u;have:=at_.rel.lt_next x;omega
 ·obtain⟨r,s,_⟩:=t.a1 i j' p ob m;exact at_.rel.fresh p r
 ·rw[c]at hl;cases hl
def avG(S:Static ops Ed sb G N plan)(A:Made T ops Ed plan h.next)(U:∀i c j,(i,c,j)∈phased 0 plan->jP P e ops sb fr T i c j)(at_:At keep G N Df M fr h a w)(J:out≠ .bad)
  (n:vG keep T.E (λfr=>.nor fr (T.Cs (bH plan))) ops.toList fr=out):
  ∀L M' f j a' w',Inv T ops Ed plan keep fr G N Df M h w L M' f j a' w'->(∀i,i<ops.size->L.getD i false=true)->iw keep G N Df M h w out .normal a' w':=by
 intro L M' f j a' w' I d;obtain⟨Z,hk,z⟩:=ahq J n;have hj:j=bH plan:=by
  rcases G! j (bH plan) with s|s
  ·obtain⟨i2,Q,B⟩:=S.heavyAt j s;have:=(I.ph i2 j Q).1 (d i2 B);omega
  ·have:=I.jle;omega
 subst hj;have q:∀{i c j'},(i,c,j')∈phased 0 plan->i<ops.size:=λ{i c j'} hp=>by
  obtain⟨o,r,_⟩:=U i c j' hp;exact(e!.1 r).1
 have Y:∀x,(T.Cs (bH plan)).get x=f.get x:=λx=>by
  by_cases W:∃i ob,(i,bH plan,x,ob)∈T.A
  ·obtain⟨i,ob,l⟩:=W;obtain⟨_,t,g3,_⟩:=A.a1 _ _ _ _ l;rw[g3,I.f1 _ _ _ _ l (d i (q t)) (x! _)];rw[F7 (b:=λ_=>true) (b':=λk=>L.getD k false) λy hy _ _=>by
    obtain⟨i2,j2,p2,x2,y2⟩:=y;obtain⟨a2,k1,_⟩:=A.i1 _ _ _ _ _ hy;exact(d i2 (q k1)).symm]
  ·rw[(A.ct _).1 x (λi ob l=>W ⟨i,ob,l⟩)];refine(I.f2 x λi j' ob l _ aa=>?_).symm;obtain⟨_,t,_⟩:=A.a1 _ _ _ _ l;have:=(sW t).1
   have D:j'=bH plan:=by omega
   subst D;exact W ⟨i,ob,l⟩
 have m:(T.Cs (bH plan)).next=f.next:=by rw[(A.ct _).2,I.nx]
 rw[<-hk];refine⟨M',⟨I.rel.congr Y m,λt' v hv=>?_,I.size,I.plain⟩,I.ext.congr Y m⟩;rcases z t' v hv with⟨o,r,hd,H,u⟩|⟨K,g⟩
 ·obtain⟨i,hi,C⟩:=List.getElem_of_mem r;have p:i<ops.size:=by simpa using hi
  have O:ops[i]?=some o:=by rw[B! p];rw[<-C];simp
  exact⟨H,I.e1 i o t' v (d i p) O hd u⟩
 ·refine I.e2 t' v (λi o _ r hd=>?_) g;have s:=K o (by have:=Array.mem_of_getElem? r;simpa using this) hd
  have X:=(at_.fr t' v g).1;rw[s]at X;cases X
end
section
variable{P:Program}{e:FuncId->Option Fun}{Ed m:Nat->Nat->Prop}{ops:Array Oper}{sb:Nat->Nat->Bool}{fr:F}{keep:Nat->Bool}{G N:Nat}{Df:List Deferred}
variable{T:Tr}{plan pre:Plan}{M₀ M:Mp}{h h₀ f:Hp}{w₀ w:World}{L:Array Bool}{j:Nat}{a:Act}{i x y:Nat}{k:Env->Hp->Out}
def EdP(ops:Array Oper)(x y:Nat):Nat->Nat->Prop:=λj i=>Edge ops j i\/(j=x/\i=y)
def sbP(sb:Nat->Nat->Bool)(x y:Nat)(j i:Nat):Bool:=sb j i||(g! j x&&g! i y)
def Bef.mono(b:∀j i,Ed j i->m j i){j i:Nat}(h:Bef Ed j i):Bef m j i:=by
 induction h with
 |one h=>exact .one (b _ _ h)
 |step _ h c=>exact .step c (b _ _ h)
def asN(l r:Plan):∀j₀,phased j₀ (l++r)=phased j₀ l++phased (j₀+bH l) r:=by
 induction l with
 |nil=>intro j₀;simp[phased,bH]
 |cons z l b=>
  obtain⟨i,c⟩:=z;intro j₀;cases c<;>simp[phased,bH,b,Nat.add_assoc,Nat.add_comm 1]
def apt(l r:Plan):bH (l++r)=bH l+bH r:=by
 induction l with
 |nil=>simp[bH]
 |cons z l b=>
  obtain⟨i,c⟩:=z;cases c<;>simp[bH,b]<;>omega
def pl2(pre:Plan)(x y:Nat):Plan:=pre++ [(x,.heavy),(y,.heavy)]
def wz{c:Cls}:(i,c,j)∈phased 0 (pl2 pre x y)↔(i,c,j)∈phased 0 pre\/(i=x/\c=.heavy/\j=bH pre)\/(i=y/\c=.heavy/\j=bH pre+1):=by
 unfold pl2;rw[asN];simp[phased]
def avt:bH (pl2 pre x y)=bH pre+2:=by unfold pl2;rw[apt];simp[bH]
def amu{α:Type}{g:Hp}{p:Pos}{wr:Wr}{cs:List V}(b:(g.get p).bind Ob.row=some (wr,cs))(k:Wr->List V->R α):dR g p k=k wr cs:=by
 unfold dR;cases c:g.get p with
 |none=>rw[c]at b;cases b
 |some o=>
  rw[c]at b;cases o with
  |cells w l=>cases b;rfl
  |bytes l=>cases b;rfl
  |_=>cases b
def aq4{sz:Nat}{a z:V}{h h':Hp}{r:V}(e0:aV sz a z h=.ok r h'):∃p o ob,a=.ptr p o/\h'=h.put p (some ob)/\∀g:Hp,g.get p=h.get p->aV sz a z g=.ok r (g.put p (some ob)):=by
 unfold aV at e0;obtain⟨p,o,rfl,e1⟩:=lQ e0;obtain⟨wr,cs,s,e2⟩:=gG e1;split at e2
 ·rename_i t fl hn hb;split at e2
  ·rename_i d n;cases e2;refine⟨p,o,_,rfl,rfl,λg c=>?_⟩;have q:(g.get p).bind Ob.row=some (.rw t fl,cs):=by rw[c];exact s
   show dR g p _=_;rw[amu q];simp only[hn,hb,n]
  ·cases e2
 ·rename_i hn hb;unfold Wp at e2;split at e2
  ·rename_i b l;split at e2
   ·rename_i cs0;split at e2
    ·rename_i d n;cases e2;refine⟨p,o,_,rfl,rfl,λg c=>?_⟩;have q:(g.get p).bind Ob.row=some (.ro,cs):=by rw[c];exact s
     show dR g p _=_;rw[amu q];simp only[hn,hb];unfold Wp;rw[c,l];simp only[n]
    ·cases e2
   ·cases e2
  ·cases e2
 ·cases e2
def aBT{D s2:Nat}{a1 E a2 H:V}{h l c n:Hp}{r1 r2:V}(e1:aV D a1 E h=.ok r1 l)(t:∀p,c.get p=l.get p)(hn:c.next=l.next)(e2:aV s2 a2 H c=.ok r2 n)
  {v d:Pos} {o1 o2:Nat} (r:a1=.ptr v o1) (s:a2=.ptr d o2) (b:v≠d):
  ∃C g,aV s2 a2 H h=.ok r2 C/\aV D a1 E C=.ok r1 g/\(∀p,g.get p=n.get p)/\g.next=n.next:=by
 obtain⟨p,o,Q,z,rfl,I⟩:=aq4 e1;obtain⟨q,o',u,B,rfl,J⟩:=aq4 e2;rw[r]at z;cases z;rw[s]at B;cases B;have K:=J h (by rw[t,Hp.dw _ (Ne.symm b)]);have O:=I (h.put d (some u)) (by rw[Hp.dw _ b]);refine⟨_,_,K,O,λx=>?_,?_⟩
 ·by_cases e1:x=v
  ·subst e1;rw[Hp.dQ,Hp.dw _ b,t,Hp.dQ]
  ·rw[Hp.dw _ e1];by_cases e2:x=d
   ·subst e2;rw[Hp.dQ,Hp.dQ]
   ·rw[Hp.dw _ e2,Hp.dw _ e2,t,Hp.dw _ e1]
 ·show h.next=c.next;rw[hn];rfl
def vM(T:Tr)(k:Nat)(b1 b2:Hp):Tr:=
 {T with Bs:=λj=>if j=k+1 then b1 else if j=k+2 then b2 else T.Bs j,Cs:=λj=>if j=k+1 then b1 else if j=k+2 then b2 else T.Cs j}
def YA{k:Nat}{b1 b2:Hp}(hj:j<=k):(vM T k b1 b2).Bs j=T.Bs j:=by
 show(if j=k+1 then b1 else if j=k+2 then b2 else T.Bs j)=_;rw[if_neg (by omega),if_neg (by omega)]
def afb{k:Nat}{b1 b2:Hp}(hj:j<=k):(vM T k b1 b2).Cs j=T.Cs j:=by
 show(if j=k+1 then b1 else if j=k+2 then b2 else T.Cs j)=_;rw[if_neg (by omega),if_neg (by omega)]
def aAb{k:Nat}{b1 b2:Hp}:(vM T k b1 b2).Bs (k+1)=b1:=by simp[vM]
def az9{k:Nat}{b1 b2:Hp}:(vM T k b1 b2).Cs (k+1)=b1:=by simp[vM]
def aAa{k:Nat}{b1 b2:Hp}:(vM T k b1 b2).Bs (k+2)=b2:=by simp[vM]
def az8{k:Nat}{b1 b2:Hp}:(vM T k b1 b2).Cs (k+2)=b2:=by simp[vM]
def jP.alt{k:Nat}{b1 b2:Hp}{c:Cls}(hj:j<=k)(hh:c=.heavy->j<k)(s:jP P e ops sb fr T i c j):jP P e ops sb fr (vM T k b1 b2) i c j:=by
 obtain⟨o,r,t⟩:=s;refine⟨o,r,?_⟩;rcases t with⟨n,vs,v,g,l,d⟩|⟨n,g,l⟩
 ·refine .inl ⟨n,vs,v,g,l,?_⟩;cases c with
  |pure=>exact d
  |read cnt=>exact⟨d.1,λj' a b=>by rw[YA (by omega)];exact d.2 j' a b⟩
  |alloc=>exact d
  |heavy=>
   have:=hh rfl;show iK P e o.op vs _=_;rw[afb hj,YA (by omega)];exact d
  |own x=>obtain⟨u,p,h',z,B,C,D⟩:=d;exact⟨u,p,h',z,B,C,by rw[afb hj];exact D⟩
  |ins x=>exact d
 ·refine .inr ⟨n,g,λq=>?_⟩;have:=hh q
  rw[afb hj,YA (by omega)];exact l q
def aHH(ops:Array Oper)(x:Nat):Prop:=∃o t b c,ops[x]?=some o/\o.guard=none/\o.dst=none/\o.op=.store t b c
def aBh{o:Oper}{t:TypeId}{r I:Operand}(D:ops[x]?=some o)(C:o.guard=none)(hd:o.dst=none)(p:o.op=.store t r I)(s:jP P e ops sb fr T x .heavy j):
  ∃ti u z v,P.info? t=some ti/\UF ops sb fr T.E x o.op.operands.toList [u,z]/\aV ti.size u z (T.Cs j)=.ok v (T.Bs (j+1)):=by
 obtain⟨o',l,H⟩:=s;rw[D]at l;cases l;rcases H with⟨_,vs,v,B,_,n⟩|⟨⟨g,b,d,c,_⟩,_⟩
 ·have n:iK P e o.op vs (T.Cs j)=.ok v (T.Bs (j+1)):=n;rw[p]at n;obtain⟨u,z,rfl,e0⟩:=V7 n;split at e0
  ·rename_i ti q;exact⟨ti,u,z,v,q,B,e0⟩
  ·cases e0
 ·rw[C]at c;cases c
def aIq{o:Oper}{t:TypeId}{l s:Operand}{ti:TypeInfo}{u z v:V}(r:ops[x]?=some o)(q:o.guard=none)(hd:o.dst=none)(b:o.op=.store t l s)(c:P.info? t=some ti)
  (n:UF ops sb fr T.E x o.op.operands.toList [u,z]) (p:aV ti.size u z (T.Cs j)=.ok v (T.Bs (j+1))):jP P e ops sb fr T x .heavy j:=by
 refine⟨o,r,.inl ⟨.inl q,[u,z],v,n,λd g=>(by rw[hd]at g;cases g),?_⟩⟩;show iK P e o.op [u,z] (T.Cs j)=_;rw[b];show(match P.info? t with|some ti=>aV ti.size u z (T.Cs j)|none=>.bad)=_;rw[c];exact p
variable{b1 b2:Hp}
def aGv(H:Static ops (EdP ops x y) sb G N (pl2 pre x y))(s:Static ops (EdP ops y x) sb G N (pl2 pre y x)){q:Pos}(A:Made T ops (EdP ops x y) (pl2 pre x y) q):
  Made (vM T (bH pre) b1 b2) ops (EdP ops y x) (pl2 pre y x) q:=by
 have b:∀{i c j},(i,c,j)∈phased 0 (pl2 pre x y)->c≠ .heavy->(i,c,j)∈phased 0 pre/\j<=bH pre:=λ{i c j} d r=>by
  rcases wz.1 d with h|⟨_,h,_⟩|⟨_,h,_⟩
  ·have:=(sW h).1;exact⟨h,by omega⟩
  ·exact absurd h r
  ·exact absurd h r
 refine⟨λi j p ob z=>?_,A.a2,A.a3,λj=>?_,λi j p u v D=>?_,A.i2,A.i4⟩
 ·obtain⟨g,l,t,n⟩:=A.a1 i j p ob z;obtain⟨o,E⟩:=b l (by simp);exact⟨g,wz.2 (.inl o),by rw[afb E];exact t,n⟩
 ·by_cases e1:j=bH pre+1
  ·subst e1;rw[aAb,az9];exact⟨λ_ _=>rfl,rfl⟩
  ·by_cases e2:j=bH pre+2
   ·subst e2;rw[aAa,az8];exact⟨λ_ _=>rfl,rfl⟩
   ·have C:(vM T (bH pre) b1 b2).Cs j=T.Cs j:=by
     show(if j=bH pre+1 then b1 else if j=bH pre+2 then b2 else T.Cs j)=_;rw[if_neg e1,if_neg e2]
    have B:(vM T (bH pre) b1 b2).Bs j=T.Bs j:=by
     show(if j=bH pre+1 then b1 else if j=bH pre+2 then b2 else T.Bs j)=_;rw[if_neg e1,if_neg e2]
    rw[C,B];exact A.ct j
 ·obtain⟨a,g,l,_,n⟩:=A.i1 i j p u v D;obtain⟨o,_⟩:=b g (by simp);have d:(i,Cls.ins a,j)∈phased 0 (pl2 pre y x):=wz.2 (.inl o);exact⟨a,d,l,(s.insA i a j d).2.1,n⟩
def Inv.swap(I:Inv T ops (EdP ops x y) (pl2 pre x y) keep fr G N Df M₀ h₀ w₀ L M f j a w)(b:L.getD x false=false)(n:L.getD y false=false):
  Inv (vM T (bH pre) b1 b2) ops (EdP ops y x) (pl2 pre y x) keep fr G N Df M₀ h₀ w₀ L M f j a w:=by
 have hj:j<=bH pre:=by
  have:=I.ph x (bH pre) (wz.2 (.inr (.inl ⟨rfl,rfl,rfl⟩)));rw[b]at this;rcases G! (bH pre) j with h|h
  ·have:=this.2 h;cases this
  ·exact h
 refine⟨I.lsize,λi k hk hl=>?_,by rw[avt];omega,λi j' g=>?_,I.rel,by rw[YA hj];exact I.nx,I.f1,λp l=>by rw[YA hj];exact I.f2 p l,λi j' p ob c d=>by rw[YA hj];exact I.f3 i j' p ob c d,I.un,I.e1,I.e2,I.size,I.plain,I.ext⟩
 ·rcases hk with hk|⟨rfl,rfl⟩
  ·exact I.down i k (.inl hk) hl
  ·rw[b]at hl;cases hl
 ·rcases wz.1 g with h|⟨rfl,_,rfl⟩|⟨rfl,_,rfl⟩
  ·exact I.ph i j' (wz.2 (.inl h))
  ·rw[n];constructor
   ·intro h;cases h
   ·intro h;omega
  ·rw[b];constructor
   ·intro h;cases h
   ·intro h;omega
end
section
variable{P:Program}{e:FuncId->Option Fun}{Ed m:Nat->Nat->Prop}{ops:Array Oper}{sb:Nat->Nat->Bool}{fr:F}{keep:Nat->Bool}{G N:Nat}{Df:List Deferred}
variable{T:Tr}{plan pre:Plan}{M₀ M:Mp}{h h₀ f:Hp}{w₀ w:World}{L:Array Bool}{j:Nat}{a:Act}{i x y:Nat}{k:Env->Hp->Out}
def aQw(s:∀f F,e f=some F->aH P G f F)(back:∀j i,Edge ops j i->j<i)(u:x≠y){b1 b2:Hp}{M₀:Mp}{w₀:World}
  (H:Static ops (EdP ops x y) sb G N (pl2 pre x y)) (D:Static ops (EdP ops y x) sb G N (pl2 pre y x))
  (A:Made T ops (EdP ops x y) (pl2 pre x y) h₀.next) (B:Made (vM T (bH pre) b1 b2) ops (EdP ops y x) (pl2 pre y x) h₀.next)
  (C:∀i c j,(i,c,j)∈phased 0 (pl2 pre x y)->jP P e ops sb fr T i c j) (r:∀i c j,(i,c,j)∈phased 0 (pl2 pre y x)->jP P e ops sb fr (vM T (bH pre) b1 b2) i c j)
  {Q:Exit->Act->World->Prop}
  (l:∀L M f j a w,Inv T ops (EdP ops x y) (pl2 pre x y) keep fr G N Df M₀ h₀ w₀ L M f j a w->(∀i,i<ops.size->L.getD i false=true)->Q .normal a w)
  (n:∀L M f j a w,Inv (vM T (bH pre) b1 b2) ops (EdP ops y x) (pl2 pre y x) keep fr G N Df M₀ h₀ w₀ L M f j a w->(∀i,i<ops.size->L.getD i false=true)->Q .normal a w):
  ∀(d:Nat) (L:Array Bool) (M:Mp) (f:Hp) (j:Nat) (a:Act) (w:World),left L<=d->
   (Inv T ops (EdP ops x y) (pl2 pre x y) keep fr G N Df M₀ h₀ w₀ L M f j a w\/(Inv (vM T (bH pre) b1 b2) ops (EdP ops y x) (pl2 pre y x) keep fr G N Df M₀ h₀ w₀ L M f j a w/\L.getD y false=true))->
   wpAny P .any ops Q d L a w:=by
 intro d;induction d with
 |zero=>
  intro L M f j a w hl I;have g:L.size=ops.size:=by rcases I with I|⟨I,_⟩<;>exact I.lsize
  have b:∀i,i<ops.size->L.getD i false=true:=λi hi=>aro (by omega) (by rw[g];exact hi);refine⟨?_,?_⟩
  ·apply List.eq_nil_iff_forall_not_mem.2;intro i hi;have R:=ZW g hi;have:=b i R.lt;rw[R.no]at this;cases this
  ·rcases I with I|⟨I,_⟩
   ·exact l L M f j a w I b
   ·exact n L M f j a w I b
 |succ d v=>
  intro L M f j a w hl I;have g:L.size=ops.size:=by rcases I with I|⟨I,_⟩<;>exact I.lsize
  refine⟨λK=>?_,λi hi=>?_⟩
  ·have b:∀i,i<ops.size->L.getD i false=true:=λi=>by
    induction i using N! with
    |_ i z=>
     intro hi;cases t:L.getD i false with
     |true=>rfl
     |false=>
      exfalso;have:i∈Region.ready .any ops L:=auz g hi t λk hk=>z k (back k i hk) (by have:=back k i hk;omega);rw[K]at this;cases this
   rcases I with I|⟨I,_⟩
   ·exact l L M f j a w I b
   ·exact n L M f j a w I b
  ·have R:=ZW g hi;have J:=avj (by rw[g];exact R.lt) R.no;rcases I with I|⟨I,q⟩
   ·by_cases E:i=y/\L.getD x false=false
    ·obtain⟨rfl,O⟩:=E;have I':=I.swap (b1:=b1) (b2:=b2) O R.no;have p:Ready ops (EdP ops i x) L i:=⟨R.lt,R.no,λk hk=>by
      rcases hk with hk|⟨_,hk⟩
      ·exact R.edge k hk
      ·exact absurd hk.symm u⟩
     refine wpOp_mono ?_ (I'.step s D B r p (Q:=Q));rintro a' w' ⟨M',f',j',o⟩;refine v _ M' f' j' a' w' (by omega) (.inr ⟨o,?_⟩);rw[fC L (by rw[g];exact R.lt),if_pos rfl]
    ·have p:Ready ops (EdP ops x y) L i:=⟨R.lt,R.no,λk hk=>by
      rcases hk with hk|⟨rfl,rfl⟩
      ·exact R.edge k hk
      ·cases t:L.getD k false with
       |true=>rfl
       |false=>exact absurd ⟨rfl,t⟩ E⟩
     refine wpOp_mono ?_ (I.step s H A C p (Q:=Q));rintro a' w' ⟨M',f',j',o⟩;exact v _ M' f' j' a' w' (by omega) (.inl o)
   ·have p:Ready ops (EdP ops y x) L i:=⟨R.lt,R.no,λk hk=>by
     rcases hk with hk|⟨rfl,rfl⟩
     ·exact R.edge k hk
     ·exact q⟩
    refine wpOp_mono ?_ (I.step s D B r p (Q:=Q));rintro a' w' ⟨M',f',j',o⟩;refine v _ M' f' j' a' w' (by omega) (.inr ⟨o,?_⟩);rw[fC L (by rw[g];exact R.lt)];split
    ·rfl
    ·exact q
end
section
variable{P:Program}{e:FuncId->Option Fun}{ops:Array Oper}{sb:Nat->Nat->Bool}{fr:F}{keep:Nat->Bool}{G N:Nat}{Df:List Deferred}
variable{T:Tr}{pre:Plan}{h:Hp}{i x y:Nat}{out:Out}
def posOf(v:V):Option Pos:=match v with
 | .ptr p _=>some p
 |_=>none
def aha(ops:Array Oper)(sb:Nat->Nat->Bool)(fr:F)(E:Env)(x:Nat):Option Pos:=match ops[x]? with
 |some o=>(match o.op with
  | .store _ a _=>(match a with
   | .tmp t=>(match Ih ops sb x t with
    |true=>(match dA t E with|some v=>posOf v|none=>none)
    |false=>(match fr.get (Pos.of t) with|some v=>posOf v|none=>none))
   |_=>none)
  |_=>none)
 |none=>none
def avH(ops:Array Oper)(sb:Nat->Nat->Bool)(fr:F)(E:Env)(x y:Nat):Bool:=match aha ops sb fr E x with
 |some p=>(match aha ops sb fr E y with
  |some q=>(match p.eq q with|true=>false|false=>true)
  |none=>false)
 |none=>false
def auH{v:V}{p:Pos}(h:posOf v=some p):∃o,v=.ptr p o:=by
 unfold posOf at h;split at h
 ·cases h;exact⟨_,rfl⟩
 ·cases h
def aq8{E:Env}{o:Oper}{t:TypeId}{g l:Operand}{u z:V}{p:Pos}(j:ops[x]?=some o)(b:o.op=.store t g l)(f:UF ops sb fr E x o.op.operands.toList [u,z])(a:aha ops sb fr E x=some p):
  ∃q,u=.ptr p q:=by
 rw[b]at f;obtain⟨m,us,e1,k,-⟩:=f;cases e1;unfold aha at a;rw[j]at a;simp only[b]at a;split at a
 ·rename_i t';rcases k with⟨c,d⟩|⟨c,d⟩
  ·rw[c]at a;simp only[d]at a;exact auH a
  ·rw[c]at a;simp only[d]at a;exact auH a
 ·cases a
def aJF{E:Env}(h:avH ops sb fr E x y=true):∃p q,aha ops sb fr E x=some p/\aha ops sb fr E y=some q/\p≠q:=by
 unfold avH at h;split at h
 ·rename_i p b;split at h
  ·rename_i q c;split at h
   ·cases h
   ·rename_i a;exact⟨p,q,b,c,Pos.eq_false.1 a⟩
  ·cases h
 ·cases h
def atD(P:Program)(keep:Nat->Bool)(e:FuncId->Option Fun)(ops:Array Oper)(sb:Nat->Nat->Bool)(pre:Plan)(x y:Nat)(fr:F)(h:Hp):Out:=
 xZ P e ops sb fr (λE h=>match avH ops sb fr E x y with|true=>vG keep E (λfr=>.nor fr h) ops.toList fr|false=>.bad) (pl2 pre x y) [] ⟨h.t,bump (jw (pl2 pre x y)) h.next⟩ ⟨h.t,bump (jw (pl2 pre x y)) h.next⟩ [] h.next
def aau{E:Env}:∀(l:List Oper) (fr:F) {H:Hp},vG keep E (λfr=>.nor fr H) l fr≠ .bad->∃b,∀c,vG keep E (λfr=>.nor fr c) l fr=.nor b c
 | [],fr,H,_=>⟨fr,λ_=>rfl⟩
 |o::l,fr,H,a=>by
  unfold vG at a;cases hd:o.dst with
  |none=>
   rw[hd]at a;obtain⟨b,h⟩:=aau l fr a;exact⟨b,λc=>by unfold vG;rw[hd];exact h c⟩
  |some d=>
   rw[hd]at a;cases hk:keep d with
   |false=>
    simp only[hk]at a;obtain⟨b,h⟩:=aau l fr a;exact⟨b,λc=>by unfold vG;rw[hd];simp only[hk];exact h c⟩
   |true=>
    simp only[hk]at a;cases f:dA d E with
    |none=>rw[f]at a;exact absurd rfl a
    |some v=>
     rw[f]at a;obtain⟨b,h⟩:=aau l _ a;exact⟨b,λc=>by unfold vG;rw[hd];simp only[hk,f];exact h c⟩
def dS.pair(u:P.follows .mixedOrders=true)(hE:∀f F,e f=some F->aH P G f F){id:Nat}(S:∀o∈ops.toList,∀c,o.op≠ .defer c)(back:∀j i,Edge ops j i->j<i)(Z:x≠y)
  (s:Static ops (EdP ops x y) sb G N (pl2 pre x y)) (J:Static ops (EdP ops y x) sb G N (pl2 pre y x)) (hx:aHH ops x) (hy:aHH ops y):dS P keep G N (.region id ops true) (atD P keep e ops sb pre x y):=by
 intro ro n Df fr h M a w d at_;refine ama u iw.amj S ?_;generalize C:atD P keep e ops sb pre x y fr h=out at d;obtain⟨T,t⟩:=uZ d (pl2 pre x y) [] _ _ [] [] h.next s.nodup rfl C;have A:=aEn s t
 have I0:=aCL s t at_;have b:=t.out;simp only[List.length_nil,Nat.zero_add]at b;have l:avH ops sb fr T.E x y=true:=by
  cases hd:avH ops sb fr T.E x y with
  |true=>rfl
  |false=>rw[hd]at b;exact absurd b.symm d
 rw[l]at b;have b:vG keep T.E (λfr=>.nor fr (T.Cs (bH (pl2 pre x y)))) ops.toList fr=out:=b;obtain⟨ox,tx,ax,zx,x1,x2,x3,x4⟩:=hx;obtain⟨oy,ty,ay,zy,y1,y2,y3,y4⟩:=hy;obtain⟨aa,ux,vx,rx,x5,x6,x7⟩:=aBh x1 x2 x3 x4 (t.steps x .heavy (bH pre) (wz.2 (.inr (.inl ⟨rfl,rfl,rfl⟩))));obtain⟨ab,uy,vy,ry,y5,y6,y7⟩:=aBh y1 y2 y3 y4 (t.steps y .heavy (bH pre+1) (wz.2 (.inr (.inr ⟨rfl,rfl,rfl⟩))));obtain⟨p,q,hp,hq,U⟩:=aJF l;obtain⟨px,W⟩:=aq8 x1 x4 x6 hp;obtain⟨py,X⟩:=aq8 y1 y4 y6 hq;have D:∀j,bH pre<j->∀i r ob,(i,j,r,ob)∉T.A:=λj hj i r ob hA=>by
  obtain⟨_,k,_,_⟩:=A.a1 i j r ob hA;rcases wz.1 k with h|⟨_,h,_⟩|⟨_,h,_⟩
  ·have:=(sW h).1;omega
  ·cases h
  ·cases h
 have O:∀r,(T.Cs (bH pre+1)).get r=(T.Bs (bH pre+1)).get r:=λr=>(A.ct _).1 r λi ob=>D _ (by omega) i r ob;have Q:∀r,(T.Cs (bH pre+2)).get r=(T.Bs (bH pre+2)).get r:=λr=>(A.ct _).1 r λi ob=>D _ (by omega) i r ob;obtain⟨K,k,F1,F2,Fg,Fn⟩:=aBT x7 O (A.ct _).2 y7 W X U;have H:∀i c j,(i,c,j)∈phased 0 (pl2 pre y x)->jP P e ops sb fr (vM T (bH pre) K k) i c j:=λi c j u=>by
  rcases wz.1 u with u|⟨rfl,rfl,rfl⟩|⟨rfl,rfl,rfl⟩
  ·have:=sW u;exact(t.steps i c j (wz.2 (.inl u))).alt (by omega) (λhc=>by have:=this.2 hc;omega)
  ·exact aIq y1 y2 y3 y4 y5 y6 (by rw[afb (x! _),aAb];exact F1)
  ·exact aIq x1 x2 x3 x4 x5 x6 (by rw[az9,aAa];exact F2)
 have B:=aGv (b1:=K) (b2:=k) s J A;obtain⟨v,hF⟩:=aau ops.toList fr (by rw[b];exact d);have m:out=.nor v (T.Cs (bH pre+2)):=by rw[<-b,hF,avt]
 refine aQw hE back Z s J A B t.steps H (avG s A t.steps at_ d b) (λL M' f j a' w' I z=>?_) ops.size _ M (T.Bs 0) 0 a _ (by unfold left;exact Nat.le_trans List.countP_le_length (by simp)) (.inl I0);have:=avG (out:=.nor v k) J B H at_ (by simp) (by
  show vG keep T.E (λfr=>.nor fr ((vM T (bH pre) K k).Cs (bH (pl2 pre y x)))) ops.toList fr=_;rw[hF,avt,az8]) L M' f j a' w' I z
 rw[m];obtain⟨M2,g,Y⟩:=this;have he:∀r,(T.Cs (bH pre+2)).get r=k.get r:=λr=>by rw[Q,Fg]
 have hn:(T.Cs (bH pre+2)).next=k.next:=by rw[(A.ct _).2,Fn]
 exact⟨M2,⟨g.rel.congr he hn,g.fr,g.size,g.plain⟩,Y.congr he hn⟩
end
section
variable{P:Program}{e:FuncId->Option Fun}{ops:Array Oper}{keep:Nat->Bool}{G N:Nat}
def aH9:Plan->Option (Plan×Nat×Nat)
 | []=>none
 |z::l=>(match aH9 l with
  |some (pre,x,y)=>some (z::pre,x,y)
  |none=>(match l with
   | []=>none
   |b::a=>(match a with
    | []=>some ([],z.1,b.1)
    |_::_=>none)))
def atA(ops:Array Oper)(x:Nat):Bool:=match ops[x]? with
 |some o=>(match o.guard,o.dst,o.op with
  |none,none,.store _ _ _=>true
  |_,_,_=>false)
 |none=>false
def avp{x:Nat}(h:atA ops x=true):aHH ops x:=by
 unfold atA at h;split at h
 ·rename_i o f;split at h
  ·rename_i t a g b c d;exact⟨o,t,a,g,f,b,c,d⟩
  ·cases h
 ·cases h
def aeG(ops:Array Oper)(a:List Nat)(G N:Nat)(pre:Plan)(x y:Nat):Bool:=
 X9 ops a&&(ahb ops (zC a) (sbP (zC a) x y) G N (pl2 pre x y)&&(ahb ops (zC a) (sbP (zC a) y x) G N (pl2 pre y x)&&(atA ops x&&(atA ops y&&!(g! x y)))))
def azi{a:List Nat}(b:X9 ops a=true){x y i j:Nat}(hi:i<ops.size)(h:sbP (zC a) x y j i=true):Bef (EdP ops x y) j i:=by
 unfold sbP at h;rw[r!]at h;rcases h with h|h
 ·exact(kG b hi h).mono λ_ _ h=>.inl h
 ·rw[c!]at h;exact .one (.inr ⟨a! h.1,a! h.2⟩)
def aIY(s:P.follows .mixedOrders=true)(q:∀f F,e f=some F->aH P G f F){id:Nat}(d:∀o∈ops.toList,∀c,o.op≠ .defer c){g:List Nat}{pre:Plan}{x y:Nat}(h:aeG ops g G N pre x y=true):
  dS P keep G N (.region id ops true) (atD P keep e ops (zC g) pre x y):=by
 simp only[aeG,c!,u!]at h;obtain⟨b,k,l,m,n,p⟩:=h;refine dS.pair s q d (λj i r=>aai b r) (q! p) ?_ ?_ (avp m) (avp n)
 ·exact aq5 (λhi a=>(kG b hi a).mono λ_ _ h=>.inl h) (λhi a=>azi b hi a) k
 ·exact aq5 (λhi a=>(kG b hi a).mono λ_ _ h=>.inl h) (λhi a=>azi b hi a) l
def aB9(P:Program)(G N:Nat)(keep:Nat->Bool)(e:FuncId->Option Fun)(ops:Array Oper)(a:List Nat)(plan:Plan):F->Hp->Out:=match aH9 plan with
 |some (pre,x,y)=>(match aeG ops a G N pre x y with|true=>atD P keep e ops (zC a) pre x y|false=>λ_ _=>.bad)
 |none=>λ_ _=>.bad
def aGl(d:P.follows .mixedOrders=true)(b:∀f F,e f=some F->aH P G f F){id:Nat}(a:∀o∈ops.toList,∀c,o.op≠ .defer c){g:List Nat}{plan:Plan}:
  dS P keep G N (.region id ops true) (aB9 P G N keep e ops g plan):=by
 unfold aB9;split
 ·split
  ·rename_i h;exact aIY d b a h
  ·exact .bad
 ·exact .bad
end
section
variable{P:Program}{G N:Nat}{keep:Nat->Bool}{e:FuncId->Option Fun}{ops:Array Oper}
def Us(t:Nat):List Nat->Bool
 | []=>false
 |u::l=>(match g! t u with|true=>true|false=>Us t l)
def akA{t:Nat}:∀{l:List Nat},Us t l=true↔t∈l
 | []=>by simp[Us]
 |u::l=>by
  simp only[Us];split
  ·rename_i h;simp[a! h]
  ·rename_i h;simp[akA,q! h]
def ahw(d:Option Nat)(us:List Nat):List Nat:=match d with
 |none=>us
 |some d=>us.filter λu=>not (g! u d)
def Xq(d:Option Nat)(us:List Nat):List Nat:=match d with
 |none=>us
 |some d=>d::us
def ifB(v:V)(t f:Out):Out:=match v with| .bool b=>(match b with|true=>t|false=>f)|_=>.bad
def aA(r:R V)(k:V->Hp->Out):Out:=match r with| .ok v h=>k v h| .bad=>.bad
instance:CoeFun (R V) (λ_=>(V->Hp->Out)->Out):=⟨aA⟩
def gtO(o:Option V)(k:V->Out):Out:=match o with|some v=>k v|none=>.bad
def lF(o:Out)(k:F->Hp->Out):Out:=match o with
 | .nor fr h=>k fr h
 | .ret fr h=>.ret fr h
 | .ex i fr h=>.ex i fr h
 | .bad=>.bad
def PV(P:Program)(keep:Nat->Bool)(e:FuncId->Option Fun)(ops:Array Oper):List Oper->List Nat->Env->F->Hp->Out
 | [],_,_,fr,h=>.nor fr h
 |o::l,us,env,fr,h=>(match o.guard with
  |none=>opK P keep e o env fr h (PV P keep e ops l (ahw o.dst us))
  |some (j,b)=>(match (ops[j]?).bind (·.dst) with
   |none=>.bad
   |some d=>(match Us d us with
    |true=>wE keep o.dst V.undef env fr λenv fr=>PV P keep e ops l (Xq o.dst us) env fr h
    |false=>Xk d env fr λv env=>(match b with
     |true=>ifB v (opK P keep e o ((d,.bool true)::env) fr h (PV P keep e ops l (ahw o.dst us))) (wE keep o.dst V.undef ((d,.bool false)::env) fr λenv fr=>PV P keep e ops l (Xq o.dst us) env fr h)
     |false=>ifB v (wE keep o.dst V.undef ((d,.bool true)::env) fr λenv fr=>PV P keep e ops l (Xq o.dst us) env fr h) (opK P keep e o ((d,.bool false)::env) fr h (PV P keep e ops l (ahw o.dst us)))))))
def LeO(a b:Out):Prop:=a≠ .bad->b=a
def LeO.refl(a:Out):LeO a a:=λ_=>rfl
def LeO.bad(b:Out):LeO .bad b:=λh=>absurd rfl h
def EqE(env a:Env):Prop:=∀t,dA t env=dA t a
def EqE.refl(env:Env):EqE env env:=λ_=>rfl
def EqE.cons{env a:Env}(h:EqE env a)(d:Nat)(v:V):EqE ((d,v)::env) ((d,v)::a):=λt=>by rw[jv,jv,h t]
def EqE.known{env a:Env}(h:EqE env a){d:Nat}{v:V}(hd:dA d a=some v):EqE ((d,v)::env) a:=λt=>by
 rw[jv];split
 ·rename_i e;subst e;exact hd.symm
 ·exact h t
def DK(us:List Nat)(env:Env):Prop:=∀d∈us,dA d env=some V.undef
def aza{t:Nat}{env b:Env}{fr:F}{k i:V->Env->Out}(d:EqE env b)(hk:∀v a c,EqE a c->(∀u x,dA u env=some x->dA u a=some x)->dA t a=some v->LeO (k v a) (i v c)):LeO (Xk t env fr k) (Xk t b fr i):=by
 unfold Xk;rw[<-d t];cases g:dA t env with
 |some v=>exact hk v env b d (λ_ _ h=>h) g
 |none=>
  simp only[gt];cases fr.get (Pos.of t) with
  |none=>exact LeO.bad _
  |some v=>
   refine hk v _ _ (d.cons t v) (λu x f=>?_) (by rw[jv,if_pos rfl]);rw[jv,if_neg (λe=>by subst e;rw[g]at f;cases f)];exact f
def aIZ{x:Operand}{env j:Env}{fr:F}{k m:V->Env->Out}(l:EqE env j)(hk:∀v d i,EqE d i->(∀u x,dA u env=some x->dA u d=some x)->LeO (k v d) (m v i)):LeO (Z7 x env fr k) (Z7 x j fr m):=by
 cases x with
 |tmp t=>exact aza l λv a b h g _=>hk v a b h g
 |const c=>
  simp only[Z7];split
  ·exact hk _ _ _ l (λ_ _ h=>h)
  ·exact LeO.bad _
 |global g=>exact hk _ _ _ l (λ_ _ h=>h)
 |func f=>exact hk _ _ _ l (λ_ _ h=>h)
def auO{fr:F}:∀{l:List Operand} {env c:Env} {k f:List V->Env->Out} (_:EqE env c) (_:∀vs a b,EqE a b->(∀u x,dA u env=some x->dA u a=some x)->LeO (k vs a) (f vs b)),LeO (ahe l env fr k) (ahe l c fr f)
 | [],_,_,_,_,d,hk=>hk [] _ _ d (λ_ _ h=>h)
 |_::l,_,_,_,_,d,hk=>aIZ d λv _ _ h g=>auO (l:=l) h λvs _ _ h' i=>hk (v::vs) _ _ h' λu x j=>i u x (g u x j)
def azV{d:Option Nat}{v:V}{env c:Env}{fr:F}{k i:Env->F->Out}(g:EqE env c)(hk:∀a b fr,EqE a b->(∀u x,d≠some u->dA u env=some x->dA u a=some x)->(∀x,d=some x->dA x a=some v)->LeO (k a fr) (i b fr)):LeO (wE keep d v env fr k) (wE keep d v c fr i):=by
 cases d with
 |none=>exact hk _ _ _ g (λ_ _ _ h=>h) (λx h=>by cases h)
 |some d=>
  have j:∀u x,some d≠some u->dA u env=some x->dA u ((d,v)::env)=some x:=λu x m f=>by rw[jv,if_neg (λe=>m (by rw[e]))];exact f
  have l:∀x,some d=some x->dA x ((d,v)::env)=some v:=λx f=>by cases f;rw[jv,if_pos rfl]
  simp only[wE,aCz];split<;>exact hk _ _ _ (g.cons d v) j l
def aNN{o:Oper}{env f:Env}{fr:F}{h:Hp}{k g:Env->F->Hp->Out}(p:EqE env f)(hk:∀d c fr h,EqE d c->(∀u x,o.dst≠some u->dA u env=some x->dA u d=some x)->LeO (k d fr h) (g c fr h)):LeO (opK P keep e o env fr h k) (opK P keep e o f fr h g):=by
 refine auO p λvs d c l i=>?_;unfold bnd;cases iK P e o.op vs h with
 |bad=>exact LeO.bad _
 |ok v m=>exact azV l λa b fr n j _=>hk a b fr m n λu x q r=>j u x q (i u x r)
def DK.drop{us:List Nat}{env a:Env}{d:Option Nat}(c:DK us env)(h:∀u x,d≠some u->dA u env=some x->dA u a=some x):DK (ahw d us) a:=by
 intro t ht;cases d with
 |none=>exact h t _ (by simp) (c t ht)
 |some d=>
  simp only[ahw,List.mem_filter]at ht;have b:t≠d:=by
   intro e;subst e;have:=ht.2;simp[v!]at this
  exact h t _ (λe=>b (by cases e;rfl)) (c t ht.1)
def DK.add{us:List Nat}{env a:Env}{d:Option Nat}(b:DK us env)(h:∀u x,d≠some u->dA u env=some x->dA u a=some x)(f:∀x,d=some x->dA x a=some V.undef):DK (Xq d us) a:=by
 intro t ht;cases d with
 |none=>exact h t _ (by simp) (b t ht)
 |some d=>
  by_cases e:t=d
  ·subst e;exact f t rfl
  ·simp only[Xq,P!,e,false_or]at ht;exact h t _ (λc=>e (by cases c;rfl)) (b t ht)
def DK.known{us:List Nat}{env:Env}{d:Nat}{v:V}(a:DK us env)(hd:dA d env=some v):DK us ((d,v)::env):=λt ht=>by
 rw[jv];split
 ·rename_i e;subst e;rw[<-hd];exact a t ht
 ·exact a t ht
def ao0:∀(l:List Oper) (us:List Nat) (env i:Env) (fr:F) (h:Hp),DK us env->EqE env i->LeO (PV P keep e ops l us env fr h) (ou P keep e ops l i fr h)
 | [],_,_,_,_,_,_,_=>LeO.refl _
 |o::l,us,env,i,fr,h,s,r=>by
  have yes:∀g f:Env,DK us g->EqE g f->LeO (opK P keep e o g fr h (PV P keep e ops l (ahw o.dst us))) (opK P keep e o f fr h (ou P keep e ops l)):=λg f k n=>
   aNN n λa b fr h w u=>ao0 l _ a b fr h (k.drop u) w
  have no:∀g f:Env,DK us g->EqE g f->LeO (wE keep o.dst V.undef g fr λenv fr=>PV P keep e ops l (Xq o.dst us) env fr h) (wE keep o.dst V.undef f fr λenv fr=>ou P keep e ops l env fr h):=λg f k n=>
   azV n λa b fr w u B=>ao0 l _ a b fr h (k.add u B) w
  rcases y:o.guard with _|⟨j,b⟩
  ·simp only[PV,ou,y];exact yes env i s r
  ·simp only[PV,ou,y];cases hd:(ops[j]?).bind (·.dst) with
   |none=>exact LeO.bad _
   |some d=>
    simp only[];cases C:Us d us with
    |true=>
     have x:dA d i=some (.tuple .nil):=by rw[<-r d];exact s d (akA.1 C)
     simp only[Xk,x,ae2];exact no env i s r
    |false=>
     refine aza r λv g f p z q=>?_;have k:DK us g:=λt ht=>z _ _ (s t ht)
     have m:dA d f=some v:=by rw[<-p d];exact q
     cases v<;>first|(cases b<;>exact LeO.bad _)|skip
     rename_i c;cases c<;>cases b
     ·exact yes _ _ (k.known q) (p.known m)
     ·exact no _ _ (k.known q) (p.known m)
     ·exact no _ _ (k.known q) (p.known m)
     ·exact yes _ _ (k.known q) (p.known m)
def Dc(P:Program)(e:FuncId->Option Fun)(ops:Array Oper)(sb:Nat->Nat->Bool)(fr:F)(k:Env->Hp->Out):Plan->List Nat->Env->Hp->Hp->List Hp->Pos->Out
 | [],_,env,_,cur,_,_=>k env cur
 |(i,c)::l,us,env,base,cur,past,q=>(match ops[i]? with
  |none=>.bad
  |some o=>(match o.guard with
   |none=>zM ops sb fr i env o.op.operands.toList λvs=>sK P e o c vs base cur past q λv base cur past q=>vH o.dst v env λenv=>Dc P e ops sb fr k l us env base cur past q
   |some (g,b)=>(match (ops[g]?).bind (·.dst) with
    |none=>.bad
    |some d=>(match Us d us with
     |true=>NW c base cur past q λbase cur past q=>vH o.dst V.undef env λenv=>Dc P e ops sb fr k l (Xq o.dst us) env base cur past q
     |false=>(match dA d env with
      |none=>.bad
      |some v=>(match b with
       |true=>ifB v
        (zM ops sb fr i ((d,.bool true)::env) o.op.operands.toList λvs=>sK P e o c vs base cur past q λv base cur past q=>vH o.dst v ((d,.bool true)::env) λenv=>Dc P e ops sb fr k l us env base cur past q)
        (NW c base cur past q λbase cur past q=>vH o.dst V.undef ((d,.bool false)::env) λenv=>Dc P e ops sb fr k l (Xq o.dst us) env base cur past q)
       |false=>ifB v
        (NW c base cur past q λbase cur past q=>vH o.dst V.undef ((d,.bool true)::env) λenv=>Dc P e ops sb fr k l (Xq o.dst us) env base cur past q)
        (zM ops sb fr i ((d,.bool false)::env) o.op.operands.toList λvs=>sK P e o c vs base cur past q λv base cur past q=>vH o.dst v ((d,.bool false)::env) λenv=>Dc P e ops sb fr k l us env base cur past q)))))))
variable{sb:Nat->Nat->Bool}{fr:F}
def aI0{i:Nat}{env a:Env}{x:Operand}{k b:V->Out}(d:EqE env a)(hk:∀v,LeO (k v) (b v)):LeO (akt ops sb fr i env x k) (akt ops sb fr i a x b):=by
 cases x with
 |tmp t=>
  simp only[akt,<-d t];split
  ·cases dA t env with
   |none=>exact LeO.bad _
   |some v=>exact hk v
  ·simp only[gt];cases fr.get (Pos.of t) with
   |none=>exact LeO.bad _
   |some v=>exact hk v
 |const c=>
  simp only[akt];split
  ·exact hk _
  ·exact LeO.bad _
 |global g=>exact hk _
 |func f=>exact hk _
def auQ{i:Nat}{env a:Env}(b:EqE env a):∀{l:List Operand} {k c:List V->Out},(∀vs,LeO (k vs) (c vs))->LeO (zM ops sb fr i env l k) (zM ops sb fr i a l c)
 | [],_,_,hk=>hk []
 |_::l,_,_,hk=>aI0 b λv=>auQ b (l:=l) λvs=>hk (v::vs)
def azW{d:Option Nat}{v:V}{env c:Env}{k i:Env->Out}(g:EqE env c)(hk:∀a b,EqE a b->(∀u x,dA u env=some x->dA u a=some x)->(∀x,d=some x->dA x a=some v)->LeO (k a) (i b)):LeO (vH d v env k) (vH d v c i):=by
 cases d with
 |none=>exact hk _ _ g (λ_ _ h=>h) (λx h=>by cases h)
 |some d=>
  simp only[vH,<-g d];cases hd:dA d env with
  |some _=>exact LeO.bad _
  |none=>exact hk _ _ (g.cons d v) (λu x f=>by rw[jv,if_neg (λe=>by subst e;rw[hd]at f;cases f)];exact f) (λx f=>by cases f;rw[jv,if_pos rfl])
def aEx{m:Hp->R V}{v:V}{k a:Out}(hk:LeO k a):∀(n:Nat) (l:List Hp),LeO (chk m v k n l) (chk m v a n l)
 |0,[]=>hk
 |0,_::_=>hk
 |n+1,[]=>hk
 |n+1,g::l=>by
  unfold chk;split
  ·split
   ·exact aEx hk n l
   ·exact LeO.bad _
  ·exact LeO.bad _
def aJi{op:Op}{vs:List V}{base cur:Hp}{q:Pos}{k b:Hp->Out}(hk:∀h,LeO (k h) (b h)):LeO (akG P op vs base cur q k) (akG P op vs base cur q b):=by
 intro a;obtain⟨p,x,y,es,rfl,⟨t,o,kk,vv,u,r,d,rfl,c,f,i⟩,j,l,m,n,s⟩:=azK a rfl;have key:∀g:Hp->Out,akG P (.insert t o kk vv) [.map p,x,y] base cur q g=g (cur.put p (some (.map (es++ [(x,y)])))):=λg=>by
  simp only[akG,c,f,aGF,i,show n! p.nat q.nat=true by simpa[l!]using j,l,m,n]
 rw[key,key];rw[key]at a;exact hk _ a
def aJO{o:Oper}{c:Cls}{vs:List V}{base cur:Hp}{past:List Hp}{q:Pos}{k b:V->Hp->Hp->List Hp->Pos->Out}(hk:∀v base cur past q,LeO (k v base cur past q) (b v base cur past q)):LeO (sK P e o c vs base cur past q k) (sK P e o c vs base cur past q b):=by
 cases c with
 |pure=>
  simp only[sK];split
  ·simp only[bnd];split
   ·exact hk _ _ _ _ _
   ·exact LeO.bad _
  ·exact LeO.bad _
 |read n=>
  simp only[sK];split
  ·simp only[bnd];split
   ·exact aEx (hk _ _ _ _ _) _ _
   ·exact LeO.bad _
  ·exact LeO.bad _
 |alloc=>
  simp only[sK];split
  ·exact hk _ _ _ _ _
  ·exact LeO.bad _
 |heavy=>
  simp only[sK,bnd];split
  ·exact hk _ _ _ _ _
  ·exact LeO.bad _
 |own a=>
  simp only[sK];split
  ·split
   ·unfold aGm;split
    ·split
     ·simp only[bnd];split
      ·exact hk _ _ _ _ _
      ·exact LeO.bad _
     ·exact LeO.bad _
    ·exact LeO.bad _
   ·exact LeO.bad _
  ·exact LeO.bad _
 |ins a=>
  simp only[sK];exact aJi λh=>hk _ _ _ _ _
def aGb{c:Cls}{base cur:Hp}{past:List Hp}{q:Pos}{k a:Hp->Hp->List Hp->Pos->Out}(hk:∀base cur past q,LeO (k base cur past q) (a base cur past q)):LeO (NW c base cur past q k) (NW c base cur past q a):=by
 cases c<;>exact hk _ _ _ _
def akP{k z:Env->Hp->Out}(hk:∀env f h,EqE env f->LeO (k env h) (z f h)):∀(l:Plan) (us:List Nat) (env f:Env) (base cur:Hp) (past:List Hp) (q:Pos),DK us env->EqE env f->LeO (Dc P e ops sb fr k l us env base cur past q) (xZ P e ops sb fr z l f base cur past q)
 | [],_,env,f,_,cur,_,_,_,n=>hk env f cur n
 |(i,c)::l,us,env,f,base,cur,past,q,s,n=>by
  cases E:ops[i]? with
  |none=>simp only[Dc,E];exact LeO.bad _
  |some o=>
   have yes:∀m j:Env,DK us m->EqE m j->LeO (zM ops sb fr i m o.op.operands.toList λvs=>sK P e o c vs base cur past q λv base cur past q=>vH o.dst v m λenv=>Dc P e ops sb fr k l us env base cur past q)
     (zM ops sb fr i j o.op.operands.toList λvs=>sK P e o c vs base cur past q λv base cur past q=>vH o.dst v j λenv=>xZ P e ops sb fr z l env base cur past q):=λm j w p=>
    auQ p λvs=>aJO λv base cur past q=>azW p λa b C B _=>akP hk l us a b base cur past q (λt ht=>B _ _ (w t ht)) C
   have no:∀m j:Env,DK us m->EqE m j->LeO (NW c base cur past q λbase cur past q=>vH o.dst V.undef m λenv=>Dc P e ops sb fr k l (Xq o.dst us) env base cur past q)
     (NW c base cur past q λbase cur past q=>vH o.dst V.undef j λenv=>xZ P e ops sb fr z l env base cur past q):=λm j w p=>
    aGb λbase cur past q=>azW p λa b C B I=>akP hk l _ a b base cur past q (w.add (λu x _=>B u x) I) C
   rcases H:o.guard with _|⟨g,b⟩
   ·simp only[Dc,xZ,E,H];exact yes env f s n
   ·simp only[Dc,xZ,E,H];cases hd:(ops[g]?).bind (·.dst) with
    |none=>exact LeO.bad _
    |some d=>
     simp only[];cases J:Us d us with
     |true=>
      have D:dA d f=some (.tuple .nil):=by rw[<-n d];exact s d (akA.1 J)
      simp only[D,aGI];exact no env f s n
     |false=>
      simp only[<-n d];cases y:dA d env with
      |none=>exact LeO.bad _
      |some v=>
       have r:dA d f=some v:=by rw[<-n d];exact y
       cases v<;>first|(cases b<;>exact LeO.bad _)|skip
       rename_i t;cases t<;>cases b
       ·exact yes _ _ (s.known y) (n.known r)
       ·exact no _ _ (s.known y) (n.known r)
       ·exact no _ _ (s.known y) (n.known r)
       ·exact yes _ _ (s.known y) (n.known r)
def ahr{E b:Env}(a:EqE E b){k:F->Out}:∀(l:List Oper) (fr:F),vG keep E k l fr=vG keep b k l fr
 | [],_=>rfl
 |o::l,fr=>by
  simp only[vG];split
  ·exact ahr a l fr
  ·rename_i d _;split
   ·exact ahr a l fr
   ·rw[<-a d];split
    ·exact ahr a l _
    ·rfl
def aIl(P:Program)(keep:Nat->Bool)(e:FuncId->Option Fun)(ops:Array Oper)(sb:Nat->Nat->Bool)(plan:Plan)(fr:F)(h:Hp):Out:=
 Dc P e ops sb fr (λE h=>vG keep E (λfr=>.nor fr h) ops.toList fr) plan [] [] ⟨h.t,bump (jw plan) h.next⟩ ⟨h.t,bump (jw plan) h.next⟩ [] h.next
def aG1{plan:Plan}(fr:F)(h:Hp):LeO (aIl P keep e ops sb plan fr h) (aCM P keep e ops sb plan fr h):=
 akP (λenv a h b=>by rw[ahr b];exact LeO.refl _) plan [] [] [] _ _ _ _ (λ_ h=>by cases h) (EqE.refl _)
def dS.le{c:Code}{D d:F->Hp->Out}(hd:dS P keep G N c D)(h:∀fr g,LeO (d fr g) (D fr g)):dS P keep G N c d:=by
 intro ro n Df fr g M a w b at_;have e:=h fr g b;rw[<-e];exact hd _ _ _ fr g M a w (by rw[e];exact b) at_
def aT(c:Operand)(a b:F->Hp->Out)(fr:F)(h:Hp):Out:=Z7 c [] fr λv _=>ifB v (a fr h) (b fr h)
abbrev tT(n:Nat):=aT (.tmp n)
def apF(c:Operand)(a b:F->Hp->Out):aT c a b=apG c a b:=by
 funext fr h;rfl
def nP(P:Program)(G N:Nat)(keep:Nat->Bool)(e:FuncId->Option Fun)(pl:bQ)(lf:Nat):Code->F->Hp->Out
 | .skip=>.nor
 | .label _=>.nor
 | .region id ops d=>(match d with
  |false=>PV P keep e ops ops.toList [] []
  |true=>(match pl id with
   |some (f,plan)=>(match aeF ops f G N plan with|true=>aIl P keep e ops (zC f) plan|false=>aB9 P G N keep e ops f plan)
   |none=>λ_ _=>.bad))
 | .seq a b=>aC (nP P G N keep e pl lf a) (nP P G N keep e pl lf b)
 | .cond c a b=>aT c (nP P G N keep e pl lf a) (nP P G N keep e pl lf b)
 | .block id b=>bI id (nP P G N keep e pl lf b)
 | .loop b=>dI (nP P G N keep e pl lf b) lf
 | .exit id=>.ex id
 | .ret=>.ret
 | .scope b=>nP P G N keep e pl lf b
 |_=>λ_ _=>.bad
def dY(k:P.follows .mixedOrders=true)(j:∀f F,e f=some F->aH P G f F)(pl:bQ)(lf:Nat):(c:Code)->codeOk G N c=true->dS P keep G N c (nP P G N keep e pl lf c)
 | .skip,_=>.nor λ_ _ _ _ _ h=>wpIn_skip h
 | .label _,_=>.nor λ_ _ _ _ _ h=>wpIn_label h
 | .region id ops d,i=>by
  cases d with
  |true=>
   simp only[nP];split
   ·split
    ·rename_i l;exact(dS.draw k j (arE i) (ax3 l) (aDY l)).le λfr h=>aG1 fr h
    ·exact aGl k j (arE i)
   ·exact .bad
  |false=>
   have:=dS.region (keep:=keep) (id:=id) j (λo n=>by simp only[codeOk,b!]at i;exact i o n);exact this.le λfr h=>ao0 _ [] [] [] fr h (λ_ h=>by cases h) (EqE.refl _)
 | .seq a b,i=>by simp only[codeOk,c!]at i;exact .seq (dY k j pl lf a i.1) (dY k j pl lf b i.2)
 | .cond c a b,i=>by
  simp only[codeOk,c!]at i;simp only[nP,apF];refine .cond (λg m=>?_) (dY k j pl lf a i.2.1) (dY k j pl lf b i.2.2);subst m;simpa[l!]using i.1
 | .block id b,i=>.block (dY k j pl lf b i)
 | .loop b,i=>.loop (dY k j pl lf b i) lf
 | .exit id,_=>λ_ _ _ fr h M a w _ at_=>wpIn_exit ⟨rfl,M,at_,.refl at_.rel⟩
 | .ret,_=>λ_ _ _ fr h M a w _ at_=>wpIn_ret ⟨M,at_,.refl at_.rel⟩
 | .scope b,i=>.scope (dY k j pl lf b i)
 | .goto _,_=>.bad
 | .rangeFunc ..,_=>.bad
 | .refuse _,_=>.bad
def dJ(P:Program)(G:Nat)(keep:Nat->Bool)(e:FuncId->Option Fun)(pl:bQ)(lf:Nat)(fn:Func):Fun:=match fn.body with
 |some c=>aY P keep fn.ntmps fn.results.toList (nP P G fn.ntmps keep e pl lf c)
 |none=>λ_ _=>.bad
def bF(g:P.follows .mixedOrders=true){f:FuncId}{fn:Func}{pl:bQ}{lf:Nat}(b:∀f F,e f=some F->aH P G f F)(d:P.funcs[f]?=some fn)(a:ahn G fn=true):aH P G f (dJ P G keep e pl lf fn):=by
 unfold ahn at a;simp only[c!,u!]at a;unfold dJ;cases hb:fn.body with
 |none=>rw[hb]at a;cases a.1
 |some c=>
  rw[hb]at a;exact apH d a.2 hb (dY g b pl lf c a.1)
end
section
variable{P:Program}{G:Nat}{M:Mp}{h h':Hp}{w:World}
def Rel.store1(B:Rel G M h w){i:Pos}{cs k:List V}{L:Loc}{o:Nat}{v:V}{c:Value}{t:TypeId}{f:Bool}(hi:h.get i=some (.cells (.rw t f) cs))(s:M i=some L)(z:jK o [v] cs=some k)(N:Rp M v c)(C:scalar c=true):
  (∃u,w.cell? (L.at o)=some u)/\w.frozen? (L.at o)=false/\Rel G M (h.put i (some (.cells (.rw t f) k))) (w.setCell (L.at o) c)/\Ext M h w M (h.put i (some (.cells (.rw t f) k))) (w.setCell (L.at o) c):=by
 obtain⟨w',E,H,I⟩:=B.store (P:=default) hi s z (xs:= [c]) ⟨c,[],N,rfl,rfl⟩ (by simpa using C);obtain⟨p,_⟩:=FU o [v] z;obtain⟨O,n,Q,el,fr,hb,K,m,r⟩:=B.ob i _ hi;rw[s]at n;cases n;simp at p;obtain⟨x,q,_⟩:=m o cs[o] (List.getElem?_eq_getElem (by omega));have J:=(e!.1 q).1;have y:w.cell? (L.at o)=some x:=by simp[World.cell?,Loc.at,hb,q]
 have b:w.frozen? (L.at o)=false:=by
  have:=r.2.1 (L.off+o) (by omega) (by omega);simp only[World.frozen?,Loc.at,hb];rw[<-Bool.not_eq_true];intro hh;rw[c!]at hh;exact this ⟨of_decide_eq_true hh.1,of_decide_eq_true hh.2⟩
 have d:=run_storeCells_cells (P:=default) L.blk (L.off+o) [c] 0 w
  (λj hj=>by
   simp at hj;subst hj;show(w.cell? (L.at o)).isSome=true;rw[y];rfl)
  (λj hj=>by simp at hj;subst hj;exact b)
  (λv D=>by simp at D;subst D;exact Sj C)
 simp only[Nat.add_zero]at d;have e:w'=w.setCell (L.at o) c:=by
  have e1:(storeCells (L.at o) [c]).run default w=.ok () (w.setCells L.blk (L.off+o) [c]):=d;rw[E]at e1;cases e1;rfl
 subst e;exact⟨⟨x,y⟩,b,H,I⟩
def V9(k c:IntKind):Bool:=g! (kix k) (kix c)
def aaF(k:IntKind):Fun:=λargs h=>match args with
 | [x]=>tY x λi o=>dR h i λ_ cs=>match LK o cs with
  |some v=>(match v with
   | .int c n=>(match V9 k c with|true=>.ok (.int k n) h|false=>.bad)
   |_=>.bad)
  |none=>.bad
 |_=>.bad
def OD:Fun:=λargs h=>match args with
 | [x,y]=>(match y with
  | .int k n=>tY x λi o=>dR h i λwr cs=>(match wr with
   | .rw t f=>(match jK o [.int k n] cs with|some c=>.ok V.undef (h.put i (some (.cells (.rw t f) c)))|none=>.bad)
   | .ro=>.bad)
  |_=>.bad)
 |_=>.bad
def Yy(k:IntKind):Fun:=λargs h=>match args with
 | [x,y]=>(match y with
  | .int e m=>tY x λi o=>dR h i λwr cs=>(match LK o cs with
   |some v=>(match v with
    | .int d n=>(match V9 k d,V9 k e with
     |true,true=>(match wr with
      | .rw t f=>(match iH k (xJ k (n+m)) h with
       | .ok s _=>(match jK o [s] cs with|some c=>.ok s (h.put i (some (.cells (.rw t f) c)))|none=>.bad)
       | .bad=>.bad)
      | .ro=>.bad)
     |_,_=>.bad)
    |_=>.bad)
   |none=>.bad)
  |_=>.bad)
 |_=>.bad
def ZU{k c:IntKind}(h:V9 k c=true):k=c:=LU h
variable{f:FuncId}{fn:Func}(b:P.funcs[f]?=some fn)(a:(fn.name== "runtime.NumGoroutine")=false)(hb:fn.body.isNone=true)(hn:L! fn=none)
include b a hb hn
def ayh(k:IntKind)(t:p! fn=some (Extern.Atomic.loadT (.int k))):aH P G f (aaF k):=by
 intro args h r h' M w cargs e j q;unfold aaF at e;split at e
 ·rename_i x;obtain⟨i,o,rfl,e1⟩:=lQ e;clear e;obtain⟨wr,cs,hi,e⟩:=gG e1;clear e1;obtain⟨c,d,s,B,rfl⟩:=q;rw[show d= [] from B];obtain⟨L,p,rfl⟩:=s.ptr;rw[oz]at e;split at e
  ·rename_i v u;split at e
   ·rename_i C n;split at e
    ·rename_i hk;have:=ZU hk;subst this;cases e;obtain⟨y,z,m,_⟩:=j.cell hi p u;cases m.int;rw[show [C! (some (L.at o))].toArray= #[.pointer (some (L.at o))] from rfl,run_call_load b a hb hn k t z];exact⟨M,gU M _ _,j,.refl j⟩
    ·cases e
   ·cases e
  ·cases e
 ·cases e
def ae9(z:p! fn=some Extern.Atomic.storeT):aH P G f OD:=by
 intro args h r h' M w cargs e C t;unfold OD at e;split at e
 ·rename_i x y;split at e
  ·rename_i k n;obtain⟨i,o,rfl,e1⟩:=lQ e;clear e;obtain⟨wr,cs,hi,e⟩:=gG e1;clear e1;obtain⟨c,m,v,⟨d,ds,hd,E,rfl⟩,rfl⟩:=t;rw[show ds= [] from E];obtain⟨L,s,rfl⟩:=v.ptr;cases hd.int;split at e
   ·split at e
    ·rename_i B;cases e;obtain⟨⟨u,D⟩,j,p,q⟩:=C.store1 (qL hi) s B (gU M k n) rfl;rw[show [C! (some (L.at o)),.int k n].toArray= #[.pointer (some (L.at o)),.int k n] from rfl,run_call_store b a hb hn z D j];exact⟨M,lH M,p,q⟩
    ·cases e
   ·cases e
  ·cases e
 ·cases e
def amN(k:IntKind)(J:p! fn=some (Extern.Atomic.update (Op.intArith .add) k true)):aH P G f (Yy k):=by
 intro args h r h' M w cargs e B H;unfold Yy at e;split at e
 ·rename_i x y;split at e
  ·rename_i S m;obtain⟨i,o,rfl,e1⟩:=lQ e;clear e;obtain⟨wr,cs,hi,e⟩:=gG e1;clear e1;obtain⟨c,C,I,⟨d,ds,hd,O,rfl⟩,rfl⟩:=H;rw[show ds= [] from O];obtain⟨L,u,rfl⟩:=I.ptr;cases hd.int;rw[oz]at e;split at e
   ·rename_i v N;split at e
    ·rename_i Q n;split at e
     ·rename_i hk p;have:=ZU hk;subst this;have:=ZU p;subst this;obtain⟨z,t,q,_⟩:=B.cell hi u N;cases q.int;split at e
      ·rw[gK,A7]at e;simp only[]at e;split at e
       ·rename_i K;cases e;obtain⟨_,j,D,E⟩:=B.store1 (qL hi) u K (gU M k (k.wrap (n+m))) rfl;rw[show [C! (some (L.at o)),.int k m].toArray= #[.pointer (some (L.at o)),.int k m] from rfl,run_call_add b a hb hn k J t j (s:=k.wrap (n+m)) rfl];exact⟨M,gU M _ _,D,E⟩
       ·cases e
      ·cases e
     ·cases e
    ·cases e
   ·cases e
  ·cases e
 ·cases e
def atu:Fun:=λargs h=>match args with| [x]=>.ok x h|_=>.bad
def auh(m:p! fn=some Extern.AbiNoEscape.same):aH P G f atu:=by
 intro args h r h' M w cargs e i j;unfold atu at e;split at e
 ·cases e;obtain⟨c,d,k,n,rfl⟩:=j;rw[show d= [] from n,run_callFunc_extern b a hb hn m];exact⟨M,k,i,.refl i⟩
 ·cases e
def aeQ(el:TypeId):Fun:=λargs h=>match args with
 | [x]=>(match x with
  | .int k n=>(match V9 .i64 k with
   |true=>(match n with
    | .ofNat n=>(match j! n 140737488355328 with
     |true=>.ok (.slice h.next 0 n (.un 1)) (h.new (.cells (.rw el false) []))
     |false=>.bad)
    | .negSucc _=>.bad)
   |false=>.bad)
  |_=>.bad)
 |_=>.bad
def ari{ps:Array TypeId}{t el:TypeId}(ht:P.underlying t=some (.slice el))(u:p! fn=some (Extern.BytealgMakeNoZero.makeNoZero ps #[t])):aH P G f (aeQ el):=by
 intro args h r h' M w cargs e y q;unfold aeQ at e;split at e
 ·rename_i x;split at e
  ·rename_i k B;split at e
   ·rename_i hk;have:=ZU hk;subst this;split at e
    ·rename_i n;split at e
     ·rename_i d;have d:=k! d;cases e;obtain⟨c,j,s,z,rfl⟩:=q;rw[show j= [] from z];cases s.int;obtain⟨cs,i,m,p⟩:=Go.Lib.run_makeNoZero (P:=P) w ps t el ht n (by omega);rw[run_callFunc_extern b a hb hn u];rw[show [X! .i64 (Int.ofNat n)].toArray= #[X! .i64 (n:Int)] from rfl,i];have:=y.new (.cells (.rw el false) []) (.cells cs el (0,0)) cs.size (w':=w.drew.drew.alloc (.cells cs el)) rfl rfl rfl rfl
       (λN _=>⟨cs,el,(0,0),by simp only[World.alloc];exact Array.getElem?_push_size,rfl,λk v hk=>(by simp at hk),rfl,λk _ _ h=>(by simp at h),λh=>(by cases h)⟩)
      refine⟨_,?_,this.1,this.2.1⟩;exact iZ (o:=0) (M.fB h.next ⟨w.heap.size,0,cs.size⟩) ⟨⟨m,p (by unfold maxLen;omega)⟩,by show 0+0+cs.size*1=cs.size;omega⟩
     ·cases e
    ·cases e
   ·cases e
  ·cases e
 ·cases e
end
section
variable{P:Program}{G:Nat}{M:Mp}{h:Hp}{w:World}
def aW:∀f F,(λ_=>none:FuncId->Option Fun) f=some F->aH P G f F:=λ_ _ h=>by cases h
def aP{g:FuncId}{F:Fun}{e:FuncId->Option Fun}(b:aH P G g F)(c:∀f F,e f=some F->aH P G f F):∀f a,(λf=>match g! f g with|true=>some F|false=>e f:FuncId->Option Fun) f=some a->aH P G f a:=by
 intro f a h;simp only[]at h;split at h
 ·rename_i hb;cases h;rw[a! hb];exact b
 ·exact c f a h
def lf:Nat:=10000000000000000000
def codeOf(fn:Func):Code:=fn.body.getD .skip
structure Seen (G:Nat) (M:Mp) (h:Hp) (w:World):Prop where
 rel:Rel G M h w
 un:∀i o,h.get i=some o->o.own=false
def h0(G:Nat):Hp:=⟨.nil,Pos.of G⟩
def m0(G:Nat):Mp:=λp=>if p.nat<G then some ⟨p.nat,0,0⟩ else none
def ae1(G:Nat)(i:Pos):(h0 G).get i=none:=T.get_nil i
def Seen.empty(G:Nat)(w:World):Seen G (m0 G) (h0 G) w:=by
 refine⟨⟨λi o hi=>?_,λi hi=>?_,λi j o p L K _ hi=>?_,λg a=>⟨0,?_⟩⟩,λi o hi=>?_⟩
 ·rw[ae1]at hi;cases hi
 ·have:G<=i.nat:=by have:=hi;rw[show(h0 G).next=Pos.of G from rfl,Pos.fD]at this;exact this
  unfold m0;rw[if_neg (by omega)]
 ·rw[ae1]at hi;cases hi
 ·unfold m0;rw[Pos.fD,if_pos a]
 ·rw[ae1]at hi;cases hi
def ayb{f:FuncId}{F:Fun}{fn:Func}{c:Code}(l:aH P G f F)(n:P.funcs[f]?=some fn)(hn:(fn.name== "runtime.NumGoroutine")=false)(hb:fn.body=some c)(S:Seen G M h w){args:List V}{cargs:List Value}(m:bY M args cargs){h':Hp}
  (e:F args h=.ok (.bool true) h'):Calls P f cargs.toArray w λe w'=>e=.returned (.bool true)/\Below w.heap.size w w':=by
 have:=l args h _ h' M w cargs e S.rel m;have a:(callFunc f cargs.toArray).run P w=.ok (.enter f cargs.toArray) w:=by
  unfold callFunc;rw[Sem.run_bind,run_program];have d:¬fn.name= "runtime.NumGoroutine" :=by simpa using hn
  simp[n,d,hb]
 rw[a]at this;refine Calls.mono this ?_;rintro e w' ⟨q,rfl,M',p,j,b⟩;have:=p.bool
 subst this;refine⟨rfl,b.os,b.tape,b.output,b.size,λk hk=>b.same k hk λi o L hi g _=>?_⟩;rw[S.un i o hi]at g;cases g
def Opq.mono{p q:Value->World->Prop}(a:∀c w,p c w->q c w){r:Result Next}(h:Opq P p r):Opq P q r:=by
 unfold Opq at h⊢;split at h
 ·exact a _ _ h
 ·exact a _ _ h
 ·exact Calls.mono h λe w' ⟨c,e1,e2⟩=>⟨c,e1,a _ _ e2⟩
 ·exact h.elim
def Rel.after{w':World}{M':Mp}{h':Hp}(r:Rel G M h w)(x:Ext (m0 G) (h0 G) w M' h' w'):Rel G M h w'/\Ext M h w M h w':=by
 have hb:∀b,b<w.heap.size->w'.heap[b]?=w.heap[b]?:=λb hb=>x.same b hb λi o L hi _ _=>by rw[ae1]at hi;cases hi
 refine⟨⟨λi o hi=>?_,r.fresh,r.sep,r.gl⟩,⟨M.le_refl,x! _,x.os,x.tape,x.output,x.size,λb d _=>hb b d,λi o L a b c=>.inr ⟨i,o,L,a,b,c,rfl⟩,λ_ _ h=>h,λi o L a b=>.inr ⟨i,o,L,a,b,rfl⟩,λ_ _ h=>h⟩⟩;obtain⟨L,f,e⟩:=r.ob i o hi;exact⟨L,f,e.of_block (hb _ e.lt)⟩
def Fq(c:Nat):List Nat->Int
 | []=> -1
 |d::l=>(match g! d c with
  |true=>0
  |false=>(match Fq c l with
   | .ofNat n=>.ofNat (n+1)
   | .negSucc _=> -1))
def aJk(c:Nat)(l:List Nat): -1<=Fq c l:=by
 induction l with
 |nil=>simp[Fq]
 |cons d l a=>
  simp only[Fq];split
  ·omega
  ·split
   ·rename_i n _;have:(0:Int)<=Int.ofNat (n+1):=Int.natCast_nonneg _;omega
   ·omega
def azN{c:Nat}(f:c<256):∀{s:List Nat},(∀b∈s,b<256)->Fq c s=Go.Lib.indexByte (s.map UInt8.ofNat) (UInt8.ofNat c)
 | [],_=>rfl
 |d::l,h=>by
  have g:=azN f (s:=l) λb hb=>h b (by simp[hb]);have hd:=h d (by simp);have a:=aJk c l;simp only[Fq,Q!,Go.Lib.indexByte,<-g];have e:(UInt8.ofNat d==UInt8.ofNat c)=g! d c:=by
   rw[Bool.eq_iff_iff];simp only[beq_iff_eq];exact⟨λh=>by rw[Ia hd f h];exact v! c,λh=>by rw[a! h]⟩
  rw[e];cases g! d c with
  |true=>rfl
  |false=>
   simp only[Bool.false_eq_true,if_false];cases hi:Fq c l with
   |ofNat n=>
    have:(Int.ofNat n== -1)=false:=by rw[beq_eq_false_iff_ne];intro h;cases h
    rw[this];rfl
   |negSucc n=>
    have:n=0:=by rw[hi]at a;omega
    subst this;rfl
def aCD:Fun:=λargs h=>match args with
 | [s,c]=>(match s with
  | .str l=>(match c with
   | .int k n=>(match g! (kix k) 4 with
    |true=>(match n with
     | .ofNat b=>(match n! b 256 with|true=>iH .i64 (Fq b l) h|false=>.bad)
     | .negSucc _=>.bad)
    |false=>.bad)
   |_=>.bad)
  |_=>.bad)
 |_=>.bad
def azM{f:FuncId}{fn:Func}(v:P.funcs[f]?=some fn)(d:(fn.name== "runtime.NumGoroutine")=false)(hb:fn.body.isNone=true)(hn:L! fn=none)(u:p! fn=some Extern.BytealgIndexByte.indexByte):aH P G f aCD:=by
 intro args h r h' M w cargs e t a;unfold aCD at e;split at e
 ·rename_i s c;split at e
  ·rename_i l;split at e
   ·rename_i k n;split at e
    ·rename_i hk;have p:k=.u8:=by cases k<;>first|rfl|cases hk
     subst p;split at e
     ·rename_i b;split at e
      ·rename_i i;have j:b<256:=by simpa[l!]using i
       obtain⟨cs,z,o,⟨y,x,m,q,rfl⟩,rfl⟩:=a;rw[show x= [] from q];obtain⟨hl,rfl⟩:=o.str;have g:=m.int;subst g;rw[gK]at e;cases e;rw[run_callFunc_extern v d hb hn u,Go.Lib.run_indexByteString];simp only[Result.andThen,Opq];refine⟨M,?_,t,.refl t⟩;have e1:(bts l).data.toList=l.map UInt8.ofNat:=by simp[bts]
       have e2:((Int.ofNat b).toNat.toUInt8)=UInt8.ofNat b:=rfl;rw[e1,e2,<-azN j hl];exact gU M _ _
      ·cases e
     ·cases e
    ·cases e
   ·cases e
  ·cases e
 ·cases e
end
section
variable{P:Program}{G:Nat}
def apc(el:TypeId)(h:Hp):R V:=.ok (.slice h.next 0 0 (.kn 0)) (h.new (.cells (.rw el true) []))
def ahj(op:BinOp)(a:List (TypeDesc×Nat))(x y:V)(h:Hp):R V:=match x,y with
 | .agg xs,.agg ys=>(match N7 a xs.list ys.list with
  |some b=>(match op with| .eql=>fH b h| .neq=>fH (not b) h|_=>.bad)
  |none=>.bad)
 |_,_=>.bad
def IC(a:A)(k:Ob->(Pos->V)->Out):Out:=match a with|some (ob,mk)=>k ob mk|none=>.bad
def aK(n:Nat)(h:Hp):Hp:=⟨h.t,bump n h.next⟩
def aQG{fn:Func}{keep:Nat->Bool}{e:FuncId->Option Fun}{pl:bQ}{l:Nat}{D:F->Hp->Out}(hb:fn.body=some (codeOf fn))(a:nP P G fn.ntmps keep e pl l (codeOf fn)=D){args:List V}(hn:j! args.length fn.ntmps=true)(h:Hp):
  dJ P G keep e pl l fn args h=bU P fn.results.toList (D (jU keep 0 args .nil) h):=by
 unfold dJ;rw[hb];simp only[aY,hn,a]
end
section
variable{G N:Nat}{M:Mp}{h:Hp}{w:World}{keep:Nat->Bool}
abbrev DV:=FuncId×List V×List V
abbrev DS:=List DV
inductive OutD where
 |nor (fr:F) (h:Hp) (ds:DS)
 |ret (fr:F) (h:Hp) (ds:DS)
 |bad
def ahd(fr:F):List Operand->Option (List V)
 | []=>some []
 |x::l=>(match x with
  | .tmp t=>(match fr.get (Pos.of t) with|some v=>(match ahd fr l with|some vs=>some (v::vs)|none=>none)|none=>none)
  | .const c=>(match const c with|some v=>(match ahd fr l with|some vs=>some (v::vs)|none=>none)|none=>none)
  | .func f=>(match ahd fr l with|some vs=>some (.func (.func f) .nil .nil::vs)|none=>none)
  | .global _=>none)
def aJh(o:Oper):Bool:=match o.op with| .defer _=>true|_=>false
def defers:Code->Bool
 | .region _ ops _=>ops.toList.any aJh
 | .seq a b=>defers a||defers b
 | .cond _ a b=>defers a||defers b
 |_=>false
def Z5{Df:List Deferred}{fr:F}{a:Act}(at_:At keep G N Df M fr h a w):∀{l:List Operand} {vs:List V},ahd fr l=some vs->bY M vs (l.map a.eval)
 | [],vs,e0=>by cases e0;rfl
 |x::l,vs,e0=>by
  simp only[ahd]at e0;split at e0
  ·rename_i t;split at e0
   ·rename_i v d;split at e0
    ·rename_i us b;cases e0;exact⟨_,_,(at_.fr t v d).2,Z5 at_ b,rfl⟩
    ·cases e0
   ·cases e0
  ·rename_i c;split at e0
   ·rename_i v d;split at e0
    ·rename_i us b;cases e0;exact⟨_,_,UB d M,Z5 at_ b,rfl⟩
    ·cases e0
   ·cases e0
  ·rename_i f;split at e0
   ·rename_i us b;cases e0;exact⟨_,_,⟨rfl,.func f,[],[],rfl,⟨rfl,rfl⟩,rfl,rfl,rfl⟩,Z5 at_ b,rfl⟩
   ·cases e0
  ·cases e0
end
section
variable{P:Program}{G:Nat}{M:Mp}{h h':Hp}{w:World}{keep:Nat->Bool}{e:FuncId->Option Fun}{r:V}
def aNo(P:Program)(G:Nat)(f:FuncId)(F:Fun):Prop:=
 ∀(args:List V) (h:Hp) (r:V) (h':Hp) (M:Mp) (w:World) (cargs:List Value),F args h=.ok r h'->Rel G M h w->bY M args cargs->
  (callFunc f cargs.toArray).run P w=.ok (.enter f cargs.toArray) w/\
  CallsD P f cargs.toArray .returning w λe u w'=>u=.returning/\∃c,e=.returned c/\Post G M h w r h' c w'
def aFU(P:Program)(G:Nat)(f:FuncId)(F:Fun):Prop:=
 ∃fn c,P.funcs[f]?=some fn/\fn.body=some c/\(∀args w,(callFunc f args).run P w=.ok (.enter f args) w)/\
 ∀(args:List V) (h:Hp) (r:V) (h':Hp) (M:Mp) (w:World) (cargs:List Value),F args h=.ok r h'->Rel G M h w->bY M args cargs->
  c.wp P (bodyPost P fn λe w'=>∃c,e=.returned c/\Post G M h w r h' c w') {tmps:=cargs.toArray++o! (fn.ntmps - cargs.toArray.size) undef,defers:= []} w
def aFU.deferred{f:FuncId}{F:Fun}(hb:aFU P G f F):aNo P G f F:=by
 obtain⟨fn,c,a,b,d,g⟩:=hb;intro args h r h' M w cargs e j i;exact⟨d _ _,callsD_of_wp a b (g args h r h' M w cargs e j i)⟩
def aex{f:FuncId}{fn:Func}{c:Code}(b:P.funcs[f]?=some fn)(hn:(fn.name== "runtime.NumGoroutine")=false)(hb:fn.body=some c)(args:Array Value)(w:World):
  (callFunc f args).run P w=.ok (.enter f args) w:=by
 unfold callFunc;rw[Sem.run_bind,run_program];have a:¬fn.name= "runtime.NumGoroutine" :=by simpa using hn
 simp[b,a,hb]
def azL{fn:Func}{args:List V}{cargs:List Value}(l:Rel G M h w)(f:bY M args cargs)(k:args.length<=fn.ntmps):
  At keep G fn.ntmps [] M (jU keep 0 args .nil) h {tmps:=cargs.toArray++o! (fn.ntmps - cargs.toArray.size) undef,defers:= []} w:=by
 have g:=f.length;refine⟨l,aar keep _ args 0 _ (λj v hj=>?_) (λt v i=>by rw[T.get_nil]at i;cases i),by simp;omega,rfl⟩;obtain⟨x,d,c⟩:=f.get hj;have b:j<cargs.length:=by
  rcases G! j cargs.length with a|a
  ·exact a
  ·rw[List.getElem?_eq_none a]at d;cases d
 have:(cargs.toArray++o! (fn.ntmps - cargs.toArray.size) undef).getD (0+j) undef=x:=by
  rw[y!,Array.getElem?_append_left (by simpa using b)];simp[d]
 simp only[this];exact c
end
section
variable{P:Program}{G:Nat}
def levels(base:FuncId->Option Fun)(st:(FuncId->Option Fun)->FuncId->Option Fun):Nat->FuncId->Option Fun
 |0=>base
 |n+1=>st (levels base st n)
def aeU{base:FuncId->Option Fun}{st:(FuncId->Option Fun)->FuncId->Option Fun}(hb:∀f F,base f=some F->aH P G f F)
  (a:∀e,(∀f F,e f=some F->aH P G f F)->∀f F,st e f=some F->aH P G f F):∀n f F,levels base st n f=some F->aH P G f F
 |0=>hb
 |n+1=>a _ (aeU hb a n)
def atw(e:FuncId->Option Fun)(f:FuncId):Fun:=match e f with
 |some F=>F
 |none=>λ_ _=>.bad
def auJ{e:FuncId->Option Fun}(a:∀f F,e f=some F->aH P G f F)(f:FuncId):aH P G f (atw e f):=by
 unfold atw;cases h:e f with
 |some F=>exact a f F h
 |none=>intro args h r h' M w cargs e;cases e
end
end Go.Vm
