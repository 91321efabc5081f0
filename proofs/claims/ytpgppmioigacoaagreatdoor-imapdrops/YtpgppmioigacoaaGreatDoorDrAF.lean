/- Lemmas that the claim's last text uses. No conditions. -/
import Derived.Test.YtpgppmioigacoaaGreatDoorDrAE
import Derived.Laws.Externs
import Derived.Laws.LoneSync
import Derived.Lib.Bytealg
import Derived.Lib.MakeNoZero
import Derived.Lib.LaidCaseMet
import Derived.Defers
set_option linter.all false
open Nat renaming eq_of_beq_eq_true→a!,beq→g!,ble_eq_true_of_le→h!,ble→k!,le_of_ble_eq_true→l!,blt_eq→n!,blt→o!,ne_of_beq_eq_false→u!,le_refl→y!,beq_refl→D!,zero_le→E!,testBit→F!,lor→G!,shiftLeft→L!,strongRecOn→Y!,testBit_or→Z!,lt_or_ge→d?,add_zero→e?
open Bool renaming and_eq_true→b!,or_eq_true→w!,not_eq_true'→C!
open List renaming all_eq_true→c!,mem_cons_of_mem→d!,any_eq_true→j!,nodup_append→t!,mem_append→v!,mem_range→x!,range→B!,mem_append_right→O!,mem_append_left→Q!,append_nil→X!,mem_cons→a?,map_cons→b?,mem_map→c?
open Array renaming getElem?_eq_some_iff→e!,getElem?_eq_getElem→I!,replicate→W!
open Go.MemPlace renaming row→i!,mem_row→r!,cell→T!
open Go.DataW renaming laidRun→p!,trod→z!,LaidVars_of_laidRun→H!
open Go.Extern renaming find→q!,findNext→U!
open Go.Region renaming binds→A!
open Go.Value renaming pointer→J!,int→k?
noncomputable section
open Go.RowKit Go.Lib Go.Proofs
namespace Go.Vm
section
variable{ops:Array Oper}{G N:Nat}
def aIh(ms:List Nat)(o:Oper):Nat:=o.after.toList.foldl (λs e=>match A! .any e with
 |true=>G! s (G! (L! 1 e.on) (ms.getD e.on 0))
 |false=>s) 0
def xY(ms:List Nat)(i' i:Nat):Bool:=F! (ms.getD i 0) i'
def each(ops:Array Oper)(p:Nat->Oper->Bool):Bool:=(B! ops.size).all λi=>(match ops[i]? with|some o=>p i o|none=>true)
theorem rq{p:Nat->Oper->Bool}(h:each ops p=true){i:Nat}{o:Oper}(a:ops[i]?=some o):p i o=true:=by
 simp only[each,c!,x!]at h;have:=h i (e!.1 a).1;rw[a]at this;exact this
def VZ(ops:Array Oper)(ms:List Nat):Bool:=each ops λi o=>g! (ms.getD i 0) (aIh ms o)&&o.after.toList.all λe=>match A! .any e with|true=>o! e.on i|false=>true
theorem Yz{ms:List Nat}(h:VZ ops ms=true){j i:Nat}(a:Edge ops j i):j<i:=by
 obtain⟨o,e,c,b,hb,rfl⟩:=a;have:=rq h c;simp only[b!,c!]at this;have:=this.2 e (by simpa using b);rw[hb]at this;simpa[n!]using this
theorem anW(ms:List Nat):∀(l:List _root_.Go.Edge) (s j:Nat),F! (l.foldl (λs e=>match A! .any e with
 |true=>G! s (G! (L! 1 e.on) (ms.getD e.on 0))
 |false=>s) s) j=true->F! s j=true\/∃e∈l,A! .any e=true/\(e.on=j\/F! (ms.getD e.on 0) j=true)
 | [],s,j,h=>.inl h
 |e::l,s,j,h=>by
  rcases anW ms l _ j h with h|⟨d,c,hb,h⟩
  ·simp only[]at h;split at h
   ·rename_i hb;rw[show ∀a b,G! a b=a|||b from λ_ _=>rfl,show ∀a b,G! a b=a|||b from λ_ _=>rfl,Z!,Z!]at h;simp only[w!]at h;rcases h with h|h|h
    ·exact .inl h
    ·refine .inr ⟨e,by simp,hb,.inl ?_⟩;rw[show L! 1 e.on=1<<<e.on from rfl,Nat.one_shiftLeft,Nat.testBit_two_pow]at h;simpa using h
    ·exact .inr ⟨e,by simp,hb,.inr h⟩
   ·exact .inl h
  ·exact .inr ⟨d,by simp[c],hb,h⟩
theorem jX{ms:List Nat}(h:VZ ops ms=true):∀{i j:Nat},i<ops.size->xY ms j i=true->Bef (Edge ops) j i:=by
 intro i;induction i using Y! with
 |_ i l=>
  intro j hi d;have g:=I! hi;have f:=rq h g;simp only[b!]at f;unfold xY at d;rw[a! f.1]at d;rcases anW ms _ 0 j d with a|⟨e,k,hb,a⟩
  ·simp at a
  ·have b:Edge ops e.on i:=⟨_,e,g,by simpa using k,hb,rfl⟩
   have c:=Yz h b;rcases a with a|a
   ·subst a;exact .one b
   ·exact .step (l e.on c (by omega) a) b
def ng:Cls->Bool
 | .heavy=>true
 |_=>false
def nodupB:List Nat->Bool
 | []=>true
 |x::l=>l.all (λy=>!Nat.beq x y)&&nodupB l
def mQ(sb:Nat->Nat->Bool)(x y:Nat×Cls×Nat):Bool:=match ng y.2.1 with
 |false=>true
 |true=>(match x.2.1 with
  | .heavy=>(match o! x.2.2 y.2.2 with
   |true=>sb x.1 y.1
   |false=>(match g! x.2.2 y.2.2 with|true=>g! x.1 y.1|false=>true))
  | .alloc=>(match k! x.2.2 y.2.2 with|true=>sb x.1 y.1|false=>true)
  | .read n=>(match k! x.2.2 y.2.2 with
   |true=>sb x.1 y.1
   |false=>(match o! (y.2.2+n) x.2.2 with|true=>sb y.1 x.1|false=>true))
  | .own _=>(match k! x.2.2 y.2.2 with|true=>sb x.1 y.1|false=>true)
  | .ins _=>(match k! x.2.2 y.2.2 with|true=>sb x.1 y.1|false=>true)
  | .pure=>true)
def ownB(ops:Array Oper)(sb:Nat->Nat->Bool)(pl:List (Nat×Cls×Nat))(x:Nat×Cls×Nat):Bool:=match x.2.1 with
 | .own a=>(match ops[a]?,ops[x.1]? with
  |some oa,some o=>(match oa.dst,o.op.operands.toList with
   |some t,[.tmp u]=>g! t u&&(Fz ops sb x.1 t&&(sb a x.1&&pl.any λy=>(match y.2.1 with| .alloc=>g! y.1 a&&g! y.2.2 x.2.2|_=>false)))
   |_,_=>false)
  |_,_=>false)
 |_=>true
def ax2(ops:Array Oper)(sb:Nat->Nat->Bool)(pl:List (Nat×Cls×Nat))(x:Nat×Cls×Nat):Bool:=match x.2.1 with
 | .ins a=>(match ops[a]?,ops[x.1]? with
  |some oa,some o=>(match oa.dst,o.op.operands.toList with
   |some t,.tmp u::_=>g! t u&&(Fz ops sb x.1 t&&(sb a x.1&&pl.any λy=>(match y.2.1 with| .alloc=>g! y.1 a&&g! y.2.2 x.2.2|_=>false)))
   |_,_=>false)
  |_,_=>false)
 |_=>true
def aeQ(o:Oper)(t:Nat):Bool:=match o.dst with|some d=>g! d t|none=>false
def acs(ops:Array Oper)(ms:List Nat)(G N:Nat)(plan:Plan):Bool:=
 VZ ops ms&&(nodupB (plan.map (·.1))&&((B! ops.size).all (λi=>(plan.map (·.1)).any (g! i))&&(plan.all (λx=>o! x.1 ops.size)&&
  ((phased 0 plan).all (λx=>(phased 0 plan).all (mQ (xY ms) x))&&
  (each ops (λi o=>match o.guard with|some (g,_)=>xY ms g i|none=>true)&&
  (each ops (λi o=>match o.dst with|some t=>each ops (λi' o'=>match aeQ o' t with|true=>g! i i'|false=>true)|none=>true)&&
  (each ops (λi o=>o.op.operands.toList.all λx=>match x with
   | .tmp t=>(match Fz ops (xY ms) i t with
    |true=>true
    |false=>each ops λi' o'=>(match aeQ o' t with|true=>g! i i'||xY ms i i'|false=>true))
   |_=>true)&&
  (ops.toList.all (pW G N)&&((phased 0 plan).all (ownB ops (xY ms) (phased 0 plan))&&(phased 0 plan).all (ax2 ops (xY ms) (phased 0 plan)))))))))))
theorem acE:∀{l:List Nat},nodupB l=true->l.Nodup
 | [],_=>List.nodup_nil
 |x::l,h=>by
  simp only[nodupB,b!,c!,C!]at h;refine List.nodup_cons.2 ⟨λa=>?_,acE h.2⟩;have:=h.1 x a
  exact absurd rfl (u! this)
theorem zA{j:Nat}:∀{j₀:Nat} {l:Plan},j₀<=j->j<j₀+bG l->∃i,(i,.heavy,j)∈phased j₀ l
 |j₀,[],d,b=>by simp[bG]at b;omega
 |j₀,(i,c)::l,d,b=>by
  cases c with
  |heavy=>
   by_cases e:j=j₀
   ·subst e;exact⟨i,by simp[phased]⟩
   ·obtain⟨i',h⟩:=zA (j:=j) (j₀:=j₀+1) (l:=l) (by omega) (by simp only[bG]at b;omega);exact⟨i',d! _ h⟩
  |pure=>
   obtain⟨i',h⟩:=zA (j:=j) (j₀:=j₀) (l:=l) d (by simpa only[bG]using b);exact⟨i',d! _ h⟩
  |read n=>
   obtain⟨i',h⟩:=zA (j:=j) (j₀:=j₀) (l:=l) d (by simpa only[bG]using b);exact⟨i',d! _ h⟩
  |alloc=>
   obtain⟨i',h⟩:=zA (j:=j) (j₀:=j₀) (l:=l) d (by simpa only[bG]using b);exact⟨i',d! _ h⟩
  |own a=>
   obtain⟨i',h⟩:=zA (j:=j) (j₀:=j₀) (l:=l) d (by simpa only[bG]using b);exact⟨i',d! _ h⟩
  |ins a=>
   obtain⟨i',h⟩:=zA (j:=j) (j₀:=j₀) (l:=l) d (by simpa only[bG]using b);exact⟨i',d! _ h⟩
theorem nN{i:Nat}:∀{j₀:Nat} {l:Plan},i∈l.map (·.1)->∃c j,(i,c,j)∈phased j₀ l
 |j₀,(i',c)::l,h=>by
  rw[b?]at h;rcases a?.1 h with d|d
  ·cases d;exact⟨c,j₀,by simp[phased]⟩
  ·cases c with
   |heavy=>obtain⟨b,j,h⟩:=nN (j₀:=j₀+1) d;exact⟨b,j,d! _ h⟩
   |pure=>obtain⟨b,j,h⟩:=nN (j₀:=j₀) d;exact⟨b,j,d! _ h⟩
   |read n=>obtain⟨b,j,h⟩:=nN (j₀:=j₀) d;exact⟨b,j,d! _ h⟩
   |alloc=>obtain⟨b,j,h⟩:=nN (j₀:=j₀) d;exact⟨b,j,d! _ h⟩
   |own a=>obtain⟨b,j,h⟩:=nN (j₀:=j₀) d;exact⟨b,j,d! _ h⟩
   |ins a=>obtain⟨b,j,h⟩:=nN (j₀:=j₀) d;exact⟨b,j,d! _ h⟩
theorem YO{o:Oper}{t:Nat}(h:o.dst=some t):aeQ o t=true:=by simp[aeQ,h]
theorem azb{ms:List Nat}{plan:Plan}(h:acs ops ms G N plan=true):Static ops (Edge ops) (xY ms) G N plan:=by
 simp only[acs,b!]at h;obtain⟨r,Q,S,U,W,X,Y,Z,h9,J,K⟩:=h;have f:∀{i c j},(i,c,j)∈phased 0 plan->i<ops.size:=λ{i c j} z=>by
  obtain⟨⟨i',c'⟩,O,rfl⟩:=c?.1 (vW z);have:=c!.1 U _ O;simpa[n!]using this
 have D:∀x y,x∈phased 0 plan->y∈phased 0 plan->mQ (xY ms) x y=true:=λx y P H=>
  c!.1 (c!.1 W x P) y H
 refine⟨λi hi=>?_,acE Q,λj hj=>?_,λi j i' j' a b hl=>?_,λi i' j a b=>?_,λi j i' j' a b hl=>?_,λi n j i' j' a b hl=>?_,λi n j i' j' a b hl=>?_,λi n j i' j' a b hl=>?_,λi x j z=>?_,λi n j i' j' a b hl=>?_,λi x j z=>?_,
  λi o g b q hg=>?_,λi i' o o' t q m E L=>?_,λi t hi p=>?_,λi o t q P p i' o' m E=>?_,λo q=>c!.1 h9 o q⟩
 ·have:=c!.1 S i (x!.2 hi);rw[j!]at this;obtain⟨k,hk,hb⟩:=this;rw[a! hb];exact nN hk
 ·obtain⟨i,hi⟩:=zA (j₀:=0) (l:=plan) (E! j) (by omega);exact⟨i,hi,f hi⟩
 ·have:=D _ _ a b;simp only[mQ,ng,show o! j j'=true from by simpa[n!]using hl]at this;exact jX r (f b) this
 ·have:=D _ _ a b;have M:o! j j=false:=by
   cases hb:o! j j with
   |false=>rfl
   |true=>have:=l! hb;omega
  simp only[mQ,ng,M,show g! j j=true from D! j]at this;exact a! this
 ·have:=D _ _ a b;simp only[mQ,ng,show k! j j'=true from h! hl]at this;exact jX r (f b) this
 ·have:=D _ _ a b;simp only[mQ,ng,show k! j j'=true from h! hl]at this;exact jX r (f b) this
 ·have:=D _ _ a b;have hn:k! j j'=false:=by
   cases hb:k! j j' with
   |false=>rfl
   |true=>have:=l! hb;omega
  simp only[mQ,ng,hn,show o! (j'+n) j=true from by simpa[n!]using hl]at this;exact jX r (f a) this
 ·have:=D _ _ a b;simp only[mQ,ng,show k! j j'=true from h! hl]at this;exact jX r (f b) this
 ·have:=c!.1 J _ z;unfold ownB at this;simp only[]at this;split at this
  ·rename_i oa o B q;split at this
   ·rename_i t u C s;simp only[b!]at this;obtain⟨e1,e2,I,e⟩:=this;have e1:=a! e1;subst e1;rw[j!]at e;obtain⟨⟨y1,y2,y3⟩,H,e⟩:=e;simp only[]at e;split at e
    ·simp only[b!]at e;have v:=a! e.1;have w:=a! e.2;subst v;subst w;exact⟨H,jX r (f z) I,oa,o,t,B,C,q,s,e2⟩
    ·cases e
   ·cases this
  ·cases this
 ·have:=D _ _ a b;simp only[mQ,ng,show k! j j'=true from h! hl]at this;exact jX r (f b) this
 ·have:=c!.1 K _ z;unfold ax2 at this;simp only[]at this;split at this
  ·rename_i oa o B q;split at this
   ·rename_i t u rest C s;simp only[b!]at this;obtain⟨e1,e2,I,e⟩:=this;have e1:=a! e1;subst e1;rw[j!]at e;obtain⟨⟨y1,y2,y3⟩,H,e⟩:=e;simp only[]at e;split at e
    ·simp only[b!]at e;have v:=a! e.1;have w:=a! e.2;subst v;subst w;exact⟨H,jX r (f z) I,oa,o,t,rest,B,C,q,s,e2⟩
    ·cases e
   ·cases this
  ·cases this
 ·have:=rq X q;simp only[hg]at this;exact jX r (e!.1 q).1 this
 ·have:=rq Y q;simp only[E]at this;have:=rq this m;simp only[YO L]at this;exact a! this
 ·unfold Fz at p;rw[j!]at p;obtain⟨i',aa,p⟩:=p;split at p
  ·rename_i o' m;split at p
   ·rename_i d E;split at p
    ·rename_i hb;exact⟨i',o',m,by rw[E,a! hb],jX r hi p⟩
    ·cases p
   ·cases p
  ·cases p
 ·have:=rq Z q;have:=c!.1 this _ P;simp only[p]at this;have:=rq this m;simp only[YO E,w!]at this;rcases this with h|h
  ·exact .inl (a! h)
  ·exact .inr (jX r (e!.1 m).1 h)
theorem atA{ms:List Nat}{plan:Plan}(h:acs ops ms G N plan=true):∀j i,Edge ops j i->j<i:=by
 unfold acs at h;rw[b!]at h;exact λj i a=>Yz h.1 a
end
abbrev bV:=Nat->Option (List Nat×Plan)
section
variable{ops:Array Oper}{G N:Nat}
def aey(ops:Array Oper)(sb a:Nat->Nat->Bool)(G N:Nat)(plan:Plan):Bool:=
 (nodupB (plan.map (·.1))&&((B! ops.size).all (λi=>(plan.map (·.1)).any (g! i))&&(plan.all (λx=>o! x.1 ops.size)&&
  ((phased 0 plan).all (λx=>(phased 0 plan).all (mQ a x))&&
  (each ops (λi o=>match o.guard with|some (g,_)=>sb g i|none=>true)&&
  (each ops (λi o=>match o.dst with|some t=>each ops (λi' o'=>match aeQ o' t with|true=>g! i i'|false=>true)|none=>true)&&
  (each ops (λi o=>o.op.operands.toList.all λx=>match x with
   | .tmp t=>(match Fz ops sb i t with
    |true=>true
    |false=>each ops λi' o'=>(match aeQ o' t with|true=>g! i i'||sb i i'|false=>true))
   |_=>true)&&
  (ops.toList.all (pW G N)&&((phased 0 plan).all (ownB ops sb (phased 0 plan))&&(phased 0 plan).all (ax2 ops sb (phased 0 plan)))))))))))
theorem anz{Ed:Nat->Nat->Prop}{sb H:Nat->Nat->Bool}{plan:Plan}(v:∀{i j},i<ops.size->sb j i=true->Bef Ed j i)(q:∀{i j},i<ops.size->H j i=true->Bef Ed j i)
  (h:aey ops sb H G N plan=true):Static ops Ed sb G N plan:=by
 simp only[aey,b!]at h;obtain⟨U,W,X,Y,Z,h7,h8,h9,L,M⟩:=h;have f:∀{i c j},(i,c,j)∈phased 0 plan->i<ops.size:=λ{i c j} B=>by
  obtain⟨⟨i',c'⟩,Q,rfl⟩:=c?.1 (vW B);have:=c!.1 X _ Q;simpa[n!]using this
 have E:∀x y,x∈phased 0 plan->y∈phased 0 plan->mQ H x y=true:=λx y S J=>
  c!.1 (c!.1 Y x S) y J
 refine⟨λi hi=>?_,acE U,λj hj=>?_,λi j i' j' a b hl=>?_,λi i' j a b=>?_,λi j i' j' a b hl=>?_,λi n j i' j' a b hl=>?_,λi n j i' j' a b hl=>?_,λi n j i' j' a b hl=>?_,λi x j B=>?_,λi n j i' j' a b hl=>?_,λi x j B=>?_,
  λi o g b r hg=>?_,λi i' o o' t r m I O=>?_,λi t hi p=>?_,λi o t r S p i' o' m I=>?_,λo r=>c!.1 h9 o r⟩
 ·have:=c!.1 W i (x!.2 hi);rw[j!]at this;obtain⟨k,hk,hb⟩:=this;rw[a! hb];exact nN hk
 ·obtain⟨i,hi⟩:=zA (j₀:=0) (l:=plan) (E! j) (by omega);exact⟨i,hi,f hi⟩
 ·have:=E _ _ a b;simp only[mQ,ng,show o! j j'=true from by simpa[n!]using hl]at this;exact q (f b) this
 ·have:=E _ _ a b;have P:o! j j=false:=by
   cases hb:o! j j with
   |false=>rfl
   |true=>have:=l! hb;omega
  simp only[mQ,ng,P,show g! j j=true from D! j]at this;exact a! this
 ·have:=E _ _ a b;simp only[mQ,ng,show k! j j'=true from h! hl]at this;exact q (f b) this
 ·have:=E _ _ a b;simp only[mQ,ng,show k! j j'=true from h! hl]at this;exact q (f b) this
 ·have:=E _ _ a b;have hn:k! j j'=false:=by
   cases hb:k! j j' with
   |false=>rfl
   |true=>have:=l! hb;omega
  simp only[mQ,ng,hn,show o! (j'+n) j=true from by simpa[n!]using hl]at this;exact q (f a) this
 ·have:=E _ _ a b;simp only[mQ,ng,show k! j j'=true from h! hl]at this;exact q (f b) this
 ·have:=c!.1 L _ B;unfold ownB at this;simp only[]at this;split at this
  ·rename_i oa o C r;split at this
   ·rename_i t u D s;simp only[b!]at this;obtain⟨e1,e2,K,e⟩:=this;have e1:=a! e1;subst e1;rw[j!]at e;obtain⟨⟨y1,y2,y3⟩,J,e⟩:=e;simp only[]at e;split at e
    ·simp only[b!]at e;have w:=a! e.1;have z:=a! e.2;subst w;subst z;exact⟨J,v (f B) K,oa,o,t,C,D,r,s,e2⟩
    ·cases e
   ·cases this
  ·cases this
 ·have:=E _ _ a b;simp only[mQ,ng,show k! j j'=true from h! hl]at this;exact q (f b) this
 ·have:=c!.1 M _ B;unfold ax2 at this;simp only[]at this;split at this
  ·rename_i oa o C r;split at this
   ·rename_i t u rest D s;simp only[b!]at this;obtain⟨e1,e2,K,e⟩:=this;have e1:=a! e1;subst e1;rw[j!]at e;obtain⟨⟨y1,y2,y3⟩,J,e⟩:=e;simp only[]at e;split at e
    ·simp only[b!]at e;have w:=a! e.1;have z:=a! e.2;subst w;subst z;exact⟨J,v (f B) K,oa,o,t,rest,C,D,r,s,e2⟩
    ·cases e
   ·cases this
  ·cases this
 ·have:=rq Z r;simp only[hg]at this;exact v (e!.1 r).1 this
 ·have:=rq h7 r;simp only[I]at this;have:=rq this m;simp only[YO O]at this;exact a! this
 ·unfold Fz at p;rw[j!]at p;obtain⟨i',aa,p⟩:=p;split at p
  ·rename_i o' m;split at p
   ·rename_i d I;split at p
    ·rename_i hb;exact⟨i',o',m,by rw[I,a! hb],v hi p⟩
    ·cases p
   ·cases p
  ·cases p
 ·have:=rq h8 r;have:=c!.1 this _ S;simp only[p]at this;have:=rq this m;simp only[YO I,w!]at this;rcases this with h|h
  ·exact .inl (a! h)
  ·exact .inr (v (e!.1 m).1 h)
end
section
variable{P:Program}{e:FuncId->Option Fun}{Ed:Nat->Nat->Prop}{ops:Array Oper}{sb:Nat->Nat->Bool}{fr:F}{keep:Nat->Bool}{G N:Nat}{Df:List Deferred}
variable{T:Tr}{plan:Plan}{M:Mp}{h f:Hp}{w:World}{L:Array Bool}{j:Nat}{a:Act}{i:Nat}{out:Out}{k:Env->Hp->Out}
theorem azC(S:Static ops Ed sb G N plan)(t:Told P e ops sb fr k plan [] ⟨h.t,bump (jr plan) h.next⟩ ⟨h.t,bump (jr plan) h.next⟩ [] [] h.next out T):Made T ops Ed plan h.next:=by
 refine⟨λi j p ob u=>?_,t.a2,t.a3,λj=>?_,λi j p x y n=>?_,t.i2,t.i4⟩
 ·obtain⟨c,l,g,r,s⟩:=t.a1 i j p ob u;exact⟨c,g,r,s⟩
 ·by_cases d:j=0
  ·subst d;have v:T.Bs 0=_:=t.tBase;rw[v];refine⟨λx q=>?_,t.cn⟩;have:=t.cs x q
   rw[show([]:List Hp).length=0 from rfl]at this;rw[this,V6 λy z d b=>?_]
   ·cases(Hp.get ⟨h.t,bump (jr plan) h.next⟩ x) with
    |none=>rfl
    |some o=>simp[Jp]
   ·exfalso;obtain⟨i',j',D,H,I⟩:=y;have d:j'=0:=d;have b:D=x:=b;subst d;subst b;obtain⟨c,_,_⟩:=t.i1 _ _ _ _ _ z;rcases c with⟨_,e2,E,m⟩|⟨a,ob,c⟩
    ·rw[e2]at m;cases m
    ·exact q a ob c
  ·exact t.ct j (by simp;omega)
 ·obtain⟨_,⟨a,l⟩,g⟩:=t.i1 _ _ _ _ _ n;obtain⟨B,C⟩:=aqV S t.steps t.i2 n l g;exact⟨a,l,B,C,g⟩
theorem ax8(S:Static ops Ed sb G N plan)(t:Told P e ops sb fr k plan [] ⟨h.t,bump (jr plan) h.next⟩ ⟨h.t,bump (jr plan) h.next⟩ [] [] h.next out T)(at_:At keep G N Df M fr h a w):
  Inv T ops Ed plan keep fr G N Df M h w (W! ops.size false) M (T.Bs 0) 0 a {w with drawn:=w.drawn+1}:=by
 have b:T.Bs 0=⟨h.t,bump (jr plan) h.next⟩:=t.tBase;have g:(T.Bs 0).next.nat=h.next.nat+jr plan:=by rw[b];exact ahQ _ _
 have B:({w with drawn:=w.drawn+1}:World).heap=w.heap:=rfl;have n:Rel G M (T.Bs 0) {w with drawn:=w.drawn+1}:=by
  refine(at_.rel.heap B).sub (λi o hi=>?_) (by rw[g];omega);rw[b]at hi;exact hi
 have q:Ext M h w M (T.Bs 0) {w with drawn:=w.drawn+1}:=by
  have l:=Ext.refl at_.rel;refine⟨l.le,by rw[g];omega,rfl,rfl,rfl,y! _,λ_ _ _=>rfl,λi o L hi=>?_,λi _ hi=>?_,λi o L hi=>?_,l.none⟩
  ·rw[b]at hi;exact l.own i o L hi
  ·rw[b];exact hi
  ·rw[b]at hi;exact l.all i o L hi
 have c:∀i,(W! ops.size false).getD i false=false:=λi=>by
  rw[Array.getD_eq_getD_getElem?,Array.getElem?_replicate];split<;>rfl
 refine⟨by simp,λi k _ x=>?_,E! _,λi j' _=>?_,n,rfl,λi j' p ob _ hl=>?_,λ_ _=>rfl,λi j' p ob m _=>?_,λi j' p ob m _=>?_,λi o d v hl=>?_,λt' v _ z=>at_.fr t' v z,at_.size,at_.plain,q⟩
 ·rw[c]at x;cases x
 ·rw[c];simp
 ·rw[c]at hl;cases hl
 ·obtain⟨r,s,_⟩:=t.a1 i j' p ob m;refine⟨?_,by rw[g];exact s⟩;cases u:(T.Bs 0).get p with
  |none=>rfl
  |some o'=>
   rw[b]at u;obtain⟨L,y,_⟩:=at_.rel.ob p o' u;have:=at_.rel.lt_next y;omega
 ·obtain⟨r,s,_⟩:=t.a1 i j' p ob m;exact at_.rel.fresh p r
 ·rw[c]at hl;cases hl
theorem arb(S:Static ops Ed sb G N plan)(A:Made T ops Ed plan h.next)(W:∀i c j,(i,c,j)∈phased 0 plan->jI P e ops sb fr T i c j)(at_:At keep G N Df M fr h a w)(K:out≠ .bad)
  (n:tJ keep T.E (λfr=>.nor fr (T.Cs (bG plan))) ops.toList fr=out):
  ∀L M' f j a' w',Inv T ops Ed plan keep fr G N Df M h w L M' f j a' w'->(∀i,i<ops.size->L.getD i false=true)->jc keep G N Df M h w out .normal a' w':=by
 intro L M' f j a' w' I d;obtain⟨aa,hk,B⟩:=aeL K n;have hj:j=bG plan:=by
  rcases d? j (bG plan) with s|s
  ·obtain⟨i2,U,C⟩:=S.heavyAt j s;have:=(I.ph i2 j U).1 (d i2 C);omega
  ·have:=I.jle;omega
 subst hj;have q:∀{i c j'},(i,c,j')∈phased 0 plan->i<ops.size:=λ{i c j'} hp=>by
  obtain⟨o,r,_⟩:=W i c j' hp;exact(e!.1 r).1
 have Z:∀x,(T.Cs (bG plan)).get x=f.get x:=λx=>by
  by_cases X:∃i ob,(i,bG plan,x,ob)∈T.A
  ·obtain⟨i,ob,l⟩:=X;obtain⟨_,t,g3,_⟩:=A.a1 _ _ _ _ l;rw[g3,I.f1 _ _ _ _ l (d i (q t)) (y! _)];rw[Et (b:=λ_=>true) (b':=λk=>L.getD k false) λy hy _ _=>by
    obtain⟨i2,j2,p2,x2,y2⟩:=y;obtain⟨a2,k1,_⟩:=A.i1 _ _ _ _ _ hy;exact(d i2 (q k1)).symm]
  ·rw[(A.ct _).1 x (λi ob l=>X ⟨i,ob,l⟩)];refine(I.f2 x λi j' ob l _ ab=>?_).symm;obtain⟨_,t,_⟩:=A.a1 _ _ _ _ l;have:=(rE t).1
   have H:j'=bG plan:=by omega
   subst H;exact X ⟨i,ob,l⟩
 have m:(T.Cs (bG plan)).next=f.next:=by rw[(A.ct _).2,I.nx]
 rw[<-hk];refine⟨M',⟨I.rel.congr Z m,λt' v hv=>?_,I.size,I.plain⟩,I.ext.congr Z m⟩;rcases B t' v hv with⟨o,r,z,J,u⟩|⟨O,g⟩
 ·obtain⟨i,hi,D⟩:=List.getElem_of_mem r;have p:i<ops.size:=by simpa using hi
  have Q:ops[i]?=some o:=by rw[I! p];rw[<-D];simp
  exact⟨J,I.e1 i o t' v (d i p) Q z u⟩
 ·refine I.e2 t' v (λi o _ r z=>?_) g;have s:=O o (by have:=Array.mem_of_getElem? r;simpa using this) z
  have Y:=(at_.fr t' v g).1;rw[s]at Y;cases Y
end
section
variable{P:Program}{e:FuncId->Option Fun}{Ed m:Nat->Nat->Prop}{ops:Array Oper}{sb:Nat->Nat->Bool}{fr:F}{keep:Nat->Bool}{G N:Nat}{Df:List Deferred}
variable{T:Tr}{plan pre:Plan}{M₀ M:Mp}{h h₀ f:Hp}{w₀ w:World}{L:Array Bool}{j:Nat}{a:Act}{i x y:Nat}{k:Env->Hp->Out}
def EdP(ops:Array Oper)(x y:Nat):Nat->Nat->Prop:=λj i=>Edge ops j i\/(j=x/\i=y)
def sbP(sb:Nat->Nat->Bool)(x y:Nat)(j i:Nat):Bool:=sb j i||(g! j x&&g! i y)
theorem Bef.mono(b:∀j i,Ed j i->m j i){j i:Nat}(h:Bef Ed j i):Bef m j i:=by
 induction h with
 |one h=>exact .one (b _ _ h)
 |step _ h c=>exact .step c (b _ _ h)
theorem aoG(l r:Plan):∀j₀,phased j₀ (l++r)=phased j₀ l++phased (j₀+bG l) r:=by
 induction l with
 |nil=>intro j₀;simp[phased,bG]
 |cons z l b=>
  obtain⟨i,c⟩:=z;intro j₀;cases c<;>simp[phased,bG,b,Nat.add_assoc,Nat.add_comm 1]
theorem ama(l r:Plan):bG (l++r)=bG l+bG r:=by
 induction l with
 |nil=>simp[bG]
 |cons z l b=>
  obtain⟨i,c⟩:=z;cases c<;>simp[bG,b]<;>omega
def pl2(pre:Plan)(x y:Nat):Plan:=pre++ [(x,.heavy),(y,.heavy)]
theorem uM{c:Cls}:(i,c,j)∈phased 0 (pl2 pre x y)↔(i,c,j)∈phased 0 pre\/(i=x/\c=.heavy/\j=bG pre)\/(i=y/\c=.heavy/\j=bG pre+1):=by
 unfold pl2;rw[aoG];simp[phased]
theorem aqY:bG (pl2 pre x y)=bG pre+2:=by unfold pl2;rw[ama];simp[bG]
theorem ajv{α:Type}{g:Hp}{p:Pos}{wr:Wr}{cs:List V}(b:(g.get p).bind Ob.row=some (wr,cs))(k:Wr->List V->R α):dP g p k=k wr cs:=by
 unfold dP;cases c:g.get p with
 |none=>rw[c]at b;cases b
 |some o=>
  rw[c]at b;cases o with
  |cells w l=>cases b;rfl
  |bytes l=>cases b;rfl
  |_=>cases b
theorem anx{sz:Nat}{a z:V}{h h':Hp}{r:V}(u:aT sz a z h=.ok r h'):∃p o ob,a=.ptr p o/\h'=h.put p (some ob)/\∀g:Hp,g.get p=h.get p->aT sz a z g=.ok r (g.put p (some ob)):=by
 unfold aT at u;obtain⟨p,o,rfl,e1⟩:=kX u;obtain⟨wr,cs,v,e2⟩:=fZ e1;split at e2
 ·rename_i t B n hb;split at e2
  ·rename_i d q;cases e2;refine⟨p,o,_,rfl,rfl,λg c=>?_⟩;have s:(g.get p).bind Ob.row=some (.rw t B,cs):=by rw[c];exact v
   show dP g p _=_;rw[ajv s];simp only[n,hb,q]
  ·cases e2
 ·rename_i n hb;unfold TF at e2;split at e2
  ·rename_i b l;split at e2
   ·rename_i cs0;split at e2
    ·rename_i d q;cases e2;refine⟨p,o,_,rfl,rfl,λg c=>?_⟩;have s:(g.get p).bind Ob.row=some (.ro,cs):=by rw[c];exact v
     show dP g p _=_;rw[ajv s];simp only[n,hb];unfold TF;rw[c,l];simp only[q]
    ·cases e2
   ·cases e2
  ·cases e2
 ·cases e2
theorem axk{D s2:Nat}{a1 E a2 H:V}{h l c n:Hp}{r1 r2:V}(e1:aT D a1 E h=.ok r1 l)(t:∀p,c.get p=l.get p)(Q:c.next=l.next)(e2:aT s2 a2 H c=.ok r2 n)
  {v d:Pos} {S U:Nat} (r:a1=.ptr v S) (s:a2=.ptr d U) (b:v≠d):
  ∃C g,aT s2 a2 H h=.ok r2 C/\aT D a1 E C=.ok r1 g/\(∀p,g.get p=n.get p)/\g.next=n.next:=by
 obtain⟨p,o,W,z,rfl,I⟩:=anx e1;obtain⟨q,o',u,B,rfl,J⟩:=anx e2;rw[r]at z;cases z;rw[s]at B;cases B;have K:=J h (by rw[t,Hp.cO _ (Ne.symm b)]);have O:=I (h.put d (some u)) (by rw[Hp.cO _ b]);refine⟨_,_,K,O,λx=>?_,?_⟩
 ·by_cases e1:x=v
  ·subst e1;rw[Hp.dQ,Hp.cO _ b,t,Hp.dQ]
  ·rw[Hp.cO _ e1];by_cases e2:x=d
   ·subst e2;rw[Hp.dQ,Hp.dQ]
   ·rw[Hp.cO _ e2,Hp.cO _ e2,t,Hp.cO _ e1]
 ·show h.next=c.next;rw[Q];rfl
def tY(T:Tr)(k:Nat)(b1 b2:Hp):Tr:=
 {T with Bs:=λj=>if j=k+1 then b1 else if j=k+2 then b2 else T.Bs j,Cs:=λj=>if j=k+1 then b1 else if j=k+2 then b2 else T.Cs j}
theorem Wj{k:Nat}{b1 b2:Hp}(b:j<=k):(tY T k b1 b2).Bs j=T.Bs j:=by
 show(if j=k+1 then b1 else if j=k+2 then b2 else T.Bs j)=_;rw[if_neg (by omega),if_neg (by omega)]
theorem acV{k:Nat}{b1 b2:Hp}(b:j<=k):(tY T k b1 b2).Cs j=T.Cs j:=by
 show(if j=k+1 then b1 else if j=k+2 then b2 else T.Cs j)=_;rw[if_neg (by omega),if_neg (by omega)]
theorem avE{k:Nat}{b1 b2:Hp}:(tY T k b1 b2).Bs (k+1)=b1:=by simp[tY]
theorem avC{k:Nat}{b1 b2:Hp}:(tY T k b1 b2).Cs (k+1)=b1:=by simp[tY]
theorem avD{k:Nat}{b1 b2:Hp}:(tY T k b1 b2).Bs (k+2)=b2:=by simp[tY]
theorem avA{k:Nat}{b1 b2:Hp}:(tY T k b1 b2).Cs (k+2)=b2:=by simp[tY]
theorem jI.alt{k:Nat}{b1 b2:Hp}{c:Cls}(q:j<=k)(hh:c=.heavy->j<k)(s:jI P e ops sb fr T i c j):jI P e ops sb fr (tY T k b1 b2) i c j:=by
 obtain⟨o,t,z⟩:=s;refine⟨o,t,?_⟩;rcases z with⟨n,vs,v,g,l,d⟩|⟨n,g,l⟩
 ·refine .inl ⟨n,vs,v,g,l,?_⟩;cases c with
  |pure=>exact d
  |read cnt=>exact⟨d.1,λj' a b=>by rw[Wj (by omega)];exact d.2 j' a b⟩
  |alloc=>exact d
  |heavy=>
   have:=hh rfl;show iH P e o.op vs _=_;rw[acV q,Wj (by omega)];exact d
  |own x=>obtain⟨u,p,h',B,C,D,E⟩:=d;exact⟨u,p,h',B,C,D,by rw[acV q];exact E⟩
  |ins x=>exact d
 ·refine .inr ⟨n,g,λr=>?_⟩;have:=hh r
  rw[acV q,Wj (by omega)];exact l r
def aDj(ops:Array Oper)(x:Nat):Prop:=∃o t b c,ops[x]?=some o/\o.guard=none/\o.dst=none/\o.op=.store t b c
theorem awI{o:Oper}{t:TypeId}{B J:Operand}(H:ops[x]?=some o)(D:o.guard=none)(K:o.dst=none)(q:o.op=.store t B J)(s:jI P e ops sb fr T x .heavy j):
  ∃ti u z v,P.info? t=some ti/\QU ops sb fr T.E x o.op.operands.toList [u,z]/\aT ti.size u z (T.Cs j)=.ok v (T.Bs (j+1)):=by
 obtain⟨o',l,I⟩:=s;rw[H]at l;cases l;rcases I with⟨_,vs,v,C,_,n⟩|⟨⟨g,b,d,c,_⟩,_⟩
 ·have n:iH P e o.op vs (T.Cs j)=.ok v (T.Bs (j+1)):=n;rw[q]at n;obtain⟨u,z,rfl,p⟩:=Ti n;split at p
  ·rename_i ti r;exact⟨ti,u,z,v,r,C,p⟩
  ·cases p
 ·rw[D]at c;cases c
theorem aDS{o:Oper}{t:TypeId}{l B:Operand}{ti:TypeInfo}{u z v:V}(s:ops[x]?=some o)(r:o.guard=none)(q:o.dst=none)(b:o.op=.store t l B)(c:P.info? t=some ti)
  (n:QU ops sb fr T.E x o.op.operands.toList [u,z]) (p:aT ti.size u z (T.Cs j)=.ok v (T.Bs (j+1))):jI P e ops sb fr T x .heavy j:=by
 refine⟨o,s,.inl ⟨.inl r,[u,z],v,n,λd g=>(by rw[q]at g;cases g),?_⟩⟩;show iH P e o.op [u,z] (T.Cs j)=_;rw[b];show(match P.info? t with|some ti=>aT ti.size u z (T.Cs j)|none=>.bad)=_;rw[c];exact p
variable{b1 b2:Hp}
theorem aBX(H:Static ops (EdP ops x y) sb G N (pl2 pre x y))(s:Static ops (EdP ops y x) sb G N (pl2 pre y x)){q:Pos}(A:Made T ops (EdP ops x y) (pl2 pre x y) q):
  Made (tY T (bG pre) b1 b2) ops (EdP ops y x) (pl2 pre y x) q:=by
 have b:∀{i c j},(i,c,j)∈phased 0 (pl2 pre x y)->c≠ .heavy->(i,c,j)∈phased 0 pre/\j<=bG pre:=λ{i c j} d r=>by
  rcases uM.1 d with h|⟨_,h,_⟩|⟨_,h,_⟩
  ·have:=(rE h).1;exact⟨h,by omega⟩
  ·exact absurd h r
  ·exact absurd h r
 refine⟨λi j p ob z=>?_,A.a2,A.a3,λj=>?_,λi j p u v D=>?_,A.i2,A.i4⟩
 ·obtain⟨g,l,t,n⟩:=A.a1 i j p ob z;obtain⟨o,E⟩:=b l (by simp);exact⟨g,uM.2 (.inl o),by rw[acV E];exact t,n⟩
 ·by_cases e1:j=bG pre+1
  ·subst e1;rw[avE,avC];exact⟨λ_ _=>rfl,rfl⟩
  ·by_cases e2:j=bG pre+2
   ·subst e2;rw[avD,avA];exact⟨λ_ _=>rfl,rfl⟩
   ·have C:(tY T (bG pre) b1 b2).Cs j=T.Cs j:=by
     show(if j=bG pre+1 then b1 else if j=bG pre+2 then b2 else T.Cs j)=_;rw[if_neg e1,if_neg e2]
    have B:(tY T (bG pre) b1 b2).Bs j=T.Bs j:=by
     show(if j=bG pre+1 then b1 else if j=bG pre+2 then b2 else T.Bs j)=_;rw[if_neg e1,if_neg e2]
    rw[C,B];exact A.ct j
 ·obtain⟨a,g,l,_,n⟩:=A.i1 i j p u v D;obtain⟨o,_⟩:=b g (by simp);have d:(i,Cls.ins a,j)∈phased 0 (pl2 pre y x):=uM.2 (.inl o);exact⟨a,d,l,(s.insA i a j d).2.1,n⟩
theorem Inv.swap(I:Inv T ops (EdP ops x y) (pl2 pre x y) keep fr G N Df M₀ h₀ w₀ L M f j a w)(d:L.getD x false=false)(q:L.getD y false=false):
  Inv (tY T (bG pre) b1 b2) ops (EdP ops y x) (pl2 pre y x) keep fr G N Df M₀ h₀ w₀ L M f j a w:=by
 have b:j<=bG pre:=by
  have:=I.ph x (bG pre) (uM.2 (.inr (.inl ⟨rfl,rfl,rfl⟩)));rw[d]at this;rcases d? (bG pre) j with h|h
  ·have:=this.2 h;cases this
  ·exact h
 refine⟨I.lsize,λi k c hl=>?_,by rw[aqY];omega,λi j' n=>?_,I.rel,by rw[Wj b];exact I.nx,I.f1,λp o=>by rw[Wj b];exact I.f2 p o,λi j' p ob g l=>by rw[Wj b];exact I.f3 i j' p ob g l,I.un,I.e1,I.e2,I.size,I.plain,I.ext⟩
 ·rcases c with c|⟨rfl,rfl⟩
  ·exact I.down i k (.inl c) hl
  ·rw[d]at hl;cases hl
 ·rcases uM.1 n with h|⟨rfl,_,rfl⟩|⟨rfl,_,rfl⟩
  ·exact I.ph i j' (uM.2 (.inl h))
  ·rw[q];constructor
   ·intro h;cases h
   ·intro h;omega
  ·rw[d];constructor
   ·intro h;cases h
   ·intro h;omega
end
section
variable{P:Program}{e:FuncId->Option Fun}{Ed m:Nat->Nat->Prop}{ops:Array Oper}{sb:Nat->Nat->Bool}{fr:F}{keep:Nat->Bool}{G N:Nat}{Df:List Deferred}
variable{T:Tr}{plan pre:Plan}{M₀ M:Mp}{h h₀ f:Hp}{w₀ w:World}{L:Array Bool}{j:Nat}{a:Act}{i x y:Nat}{k:Env->Hp->Out}
theorem aK6(t:∀f F,e f=some F->aG P G f F)(back:∀j i,Edge ops j i->j<i)(v:x≠y){b1 b2:Hp}{M₀:Mp}{w₀:World}
  (J:Static ops (EdP ops x y) sb G N (pl2 pre x y)) (D:Static ops (EdP ops y x) sb G N (pl2 pre y x))
  (A:Made T ops (EdP ops x y) (pl2 pre x y) h₀.next) (B:Made (tY T (bG pre) b1 b2) ops (EdP ops y x) (pl2 pre y x) h₀.next)
  (stA:∀i c j,(i,c,j)∈phased 0 (pl2 pre x y)->jI P e ops sb fr T i c j) (s:∀i c j,(i,c,j)∈phased 0 (pl2 pre y x)->jI P e ops sb fr (tY T (bG pre) b1 b2) i c j)
  {Q:Exit->Act->World->Prop}
  (n:∀L M f j a w,Inv T ops (EdP ops x y) (pl2 pre x y) keep fr G N Df M₀ h₀ w₀ L M f j a w->(∀i,i<ops.size->L.getD i false=true)->Q .normal a w)
  (o:∀L M f j a w,Inv (tY T (bG pre) b1 b2) ops (EdP ops y x) (pl2 pre y x) keep fr G N Df M₀ h₀ w₀ L M f j a w->(∀i,i<ops.size->L.getD i false=true)->Q .normal a w):
  ∀(d:Nat) (L:Array Bool) (M:Mp) (f:Hp) (j:Nat) (a:Act) (w:World),left L<=d->
   (Inv T ops (EdP ops x y) (pl2 pre x y) keep fr G N Df M₀ h₀ w₀ L M f j a w\/(Inv (tY T (bG pre) b1 b2) ops (EdP ops y x) (pl2 pre y x) keep fr G N Df M₀ h₀ w₀ L M f j a w/\L.getD y false=true))->
   wpAny P .any ops Q d L a w:=by
 intro d;induction d with
 |zero=>
  intro L M f j a w hl I;have g:L.size=ops.size:=by rcases I with I|⟨I,_⟩<;>exact I.lsize
  have b:∀i,i<ops.size->L.getD i false=true:=λi hi=>anP (by omega) (by rw[g];exact hi);refine⟨?_,?_⟩
  ·apply List.eq_nil_iff_forall_not_mem.2;intro i hi;have R:=X3 g hi;have:=b i R.lt;rw[R.no]at this;cases this
  ·rcases I with I|⟨I,_⟩
   ·exact n L M f j a w I b
   ·exact o L M f j a w I b
 |succ d z=>
  intro L M f j a w hl I;have g:L.size=ops.size:=by rcases I with I|⟨I,_⟩<;>exact I.lsize
  refine⟨λO=>?_,λi hi=>?_⟩
  ·have b:∀i,i<ops.size->L.getD i false=true:=λi=>by
    induction i using Y! with
    |_ i C=>
     intro hi;cases u:L.getD i false with
     |true=>rfl
     |false=>
      exfalso;have:i∈Region.ready .any ops L:=apY g hi u λk l=>C k (back k i l) (by have:=back k i l;omega);rw[O]at this;cases this
   rcases I with I|⟨I,_⟩
   ·exact n L M f j a w I b
   ·exact o L M f j a w I b
  ·have R:=X3 g hi;have K:=aqR (by rw[g];exact R.lt) R.no;rcases I with I|⟨I,r⟩
   ·by_cases E:i=y/\L.getD x false=false
    ·obtain⟨rfl,S⟩:=E;have H:=I.swap (b1:=b1) (b2:=b2) S R.no;have q:Ready ops (EdP ops i x) L i:=⟨R.lt,R.no,λk l=>by
      rcases l with l|⟨_,l⟩
      ·exact R.edge k l
      ·exact absurd l.symm v⟩
     refine wpOp_mono ?_ (H.step t D B s q (Q:=Q));rintro a' w' ⟨M',f',j',p⟩;refine z _ M' f' j' a' w' (by omega) (.inr ⟨p,?_⟩);rw[eU L (by rw[g];exact R.lt),if_pos rfl]
    ·have q:Ready ops (EdP ops x y) L i:=⟨R.lt,R.no,λk l=>by
      rcases l with l|⟨rfl,rfl⟩
      ·exact R.edge k l
      ·cases u:L.getD k false with
       |true=>rfl
       |false=>exact absurd ⟨rfl,u⟩ E⟩
     refine wpOp_mono ?_ (I.step t J A stA q (Q:=Q));rintro a' w' ⟨M',f',j',p⟩;exact z _ M' f' j' a' w' (by omega) (.inl p)
   ·have q:Ready ops (EdP ops y x) L i:=⟨R.lt,R.no,λk l=>by
     rcases l with l|⟨rfl,rfl⟩
     ·exact R.edge k l
     ·exact r⟩
    refine wpOp_mono ?_ (I.step t D B s q (Q:=Q));rintro a' w' ⟨M',f',j',p⟩;refine z _ M' f' j' a' w' (by omega) (.inr ⟨p,?_⟩);rw[eU L (by rw[g];exact R.lt)];split
    ·rfl
    ·exact r
end
section
variable{P:Program}{e:FuncId->Option Fun}{ops:Array Oper}{sb:Nat->Nat->Bool}{fr:F}{keep:Nat->Bool}{G N:Nat}{Df:List Deferred}
variable{T:Tr}{pre:Plan}{h:Hp}{i x y:Nat}{out:Out}
def posOf(v:V):Option Pos:=match v with
 | .ptr p _=>some p
 |_=>none
def aex(ops:Array Oper)(sb:Nat->Nat->Bool)(fr:F)(E:Env)(x:Nat):Option Pos:=match ops[x]? with
 |some o=>(match o.op with
  | .store _ a _=>(match a with
   | .tmp t=>(match Fz ops sb x t with
    |true=>(match dn t E with|some v=>posOf v|none=>none)
    |false=>(match fr.get (Pos.of t) with|some v=>posOf v|none=>none))
   |_=>none)
  |_=>none)
 |none=>none
def ard(ops:Array Oper)(sb:Nat->Nat->Bool)(fr:F)(E:Env)(x y:Nat):Bool:=match aex ops sb fr E x with
 |some p=>(match aex ops sb fr E y with
  |some q=>(match p.eq q with|true=>false|false=>true)
  |none=>false)
 |none=>false
theorem ap6{v:V}{p:Pos}(h:posOf v=some p):∃o,v=.ptr p o:=by
 unfold posOf at h;split at h
 ·cases h;exact⟨_,rfl⟩
 ·cases h
theorem anC{E:Env}{o:Oper}{t:TypeId}{g l:Operand}{u z:V}{p:Pos}(j:ops[x]?=some o)(b:o.op=.store t g l)(f:QU ops sb fr E x o.op.operands.toList [u,z])(a:aex ops sb fr E x=some p):
  ∃q,u=.ptr p q:=by
 rw[b]at f;obtain⟨m,n,e1,k,-⟩:=f;cases e1;unfold aex at a;rw[j]at a;simp only[b]at a;split at a
 ·rename_i t';rcases k with⟨c,d⟩|⟨c,d⟩
  ·rw[c]at a;simp only[d]at a;exact ap6 a
  ·rw[c]at a;simp only[d]at a;exact ap6 a
 ·cases a
theorem aEF{E:Env}(h:ard ops sb fr E x y=true):∃p q,aex ops sb fr E x=some p/\aex ops sb fr E y=some q/\p≠q:=by
 unfold ard at h;split at h
 ·rename_i p b;split at h
  ·rename_i q c;split at h
   ·cases h
   ·rename_i a;exact⟨p,q,b,c,Pos.eq_false.1 a⟩
  ·cases h
 ·cases h
def apn(P:Program)(keep:Nat->Bool)(e:FuncId->Option Fun)(ops:Array Oper)(sb:Nat->Nat->Bool)(pre:Plan)(x y:Nat)(fr:F)(h:Hp):Out:=
 wE P e ops sb fr (λE h=>match ard ops sb fr E x y with|true=>tJ keep E (λfr=>.nor fr h) ops.toList fr|false=>.bad) (pl2 pre x y) [] ⟨h.t,bump (jr (pl2 pre x y)) h.next⟩ ⟨h.t,bump (jr (pl2 pre x y)) h.next⟩ [] h.next
theorem YM{E:Env}:∀(l:List Oper) (fr:F) {H:Hp},tJ keep E (λfr=>.nor fr H) l fr≠ .bad->∃b,∀c,tJ keep E (λfr=>.nor fr c) l fr=.nor b c
 | [],fr,H,_=>⟨fr,λ_=>rfl⟩
 |o::l,fr,H,a=>by
  unfold tJ at a;cases f:o.dst with
  |none=>
   rw[f]at a;obtain⟨b,h⟩:=YM l fr a;exact⟨b,λc=>by unfold tJ;rw[f];exact h c⟩
  |some d=>
   rw[f]at a;cases g:keep d with
   |false=>
    simp only[g]at a;obtain⟨b,h⟩:=YM l fr a;exact⟨b,λc=>by unfold tJ;rw[f];simp only[g];exact h c⟩
   |true=>
    simp only[g]at a;cases j:dn d E with
    |none=>rw[j]at a;exact absurd rfl a
    |some v=>
     rw[j]at a;obtain⟨b,h⟩:=YM l _ a;exact⟨b,λc=>by unfold tJ;rw[f];simp only[g,j];exact h c⟩
theorem dX.pair(u:P.follows .mixedOrders=true)(hE:∀f F,e f=some F->aG P G f F){id:Nat}(S:∀o∈ops.toList,∀c,o.op≠ .defer c)(back:∀j i,Edge ops j i->j<i)(Z:x≠y)
  (s:Static ops (EdP ops x y) sb G N (pl2 pre x y)) (J:Static ops (EdP ops y x) sb G N (pl2 pre y x)) (hx:aDj ops x) (hy:aDj ops y):dX P keep G N (.region id ops true) (apn P keep e ops sb pre x y):=by
 intro ro n Df fr h M a w d at_;refine ai4 u jc.apg S ?_;generalize C:apn P keep e ops sb pre x y fr h=out at d;obtain⟨T,t⟩:=tu d (pl2 pre x y) [] _ _ [] [] h.next s.nodup rfl C;have A:=azC s t
 have I0:=ax8 s t at_;have b:=t.out;simp only[List.length_nil,Nat.zero_add]at b;have l:ard ops sb fr T.E x y=true:=by
  cases hd:ard ops sb fr T.E x y with
  |true=>rfl
  |false=>rw[hd]at b;exact absurd b.symm d
 rw[l]at b;have b:tJ keep T.E (λfr=>.nor fr (T.Cs (bG (pl2 pre x y)))) ops.toList fr=out:=b;obtain⟨ox,tx,ax,zx,x1,x2,x3,x4⟩:=hx;obtain⟨oy,ty,ay,zy,y1,y2,y3,y4⟩:=hy;obtain⟨aa,ux,vx,rx,x5,x6,x7⟩:=awI x1 x2 x3 x4 (t.steps x .heavy (bG pre) (uM.2 (.inr (.inl ⟨rfl,rfl,rfl⟩))));obtain⟨ab,uy,vy,ry,y5,y6,y7⟩:=awI y1 y2 y3 y4 (t.steps y .heavy (bG pre+1) (uM.2 (.inr (.inr ⟨rfl,rfl,rfl⟩))));obtain⟨p,q,hp,hq,U⟩:=aEF l;obtain⟨px,W⟩:=anC x1 x4 x6 hp;obtain⟨py,X⟩:=anC y1 y4 y6 hq;have D:∀j,bG pre<j->∀i r ob,(i,j,r,ob)∉T.A:=λj hj i r ob hA=>by
  obtain⟨_,k,_,_⟩:=A.a1 i j r ob hA;rcases uM.1 k with h|⟨_,h,_⟩|⟨_,h,_⟩
  ·have:=(rE h).1;omega
  ·cases h
  ·cases h
 have O:∀r,(T.Cs (bG pre+1)).get r=(T.Bs (bG pre+1)).get r:=λr=>(A.ct _).1 r λi ob=>D _ (by omega) i r ob;have Q:∀r,(T.Cs (bG pre+2)).get r=(T.Bs (bG pre+2)).get r:=λr=>(A.ct _).1 r λi ob=>D _ (by omega) i r ob;obtain⟨K,k,F1,F2,Fg,Fn⟩:=axk x7 O (A.ct _).2 y7 W X U;have H:∀i c j,(i,c,j)∈phased 0 (pl2 pre y x)->jI P e ops sb fr (tY T (bG pre) K k) i c j:=λi c j u=>by
  rcases uM.1 u with u|⟨rfl,rfl,rfl⟩|⟨rfl,rfl,rfl⟩
  ·have:=rE u;exact(t.steps i c j (uM.2 (.inl u))).alt (by omega) (λhc=>by have:=this.2 hc;omega)
  ·exact aDS y1 y2 y3 y4 y5 y6 (by rw[acV (y! _),avE];exact F1)
  ·exact aDS x1 x2 x3 x4 x5 x6 (by rw[avC,avD];exact F2)
 have B:=aBX (b1:=K) (b2:=k) s J A;obtain⟨v,hF⟩:=YM ops.toList fr (by rw[b];exact d);have m:out=.nor v (T.Cs (bG pre+2)):=by rw[<-b,hF,aqY]
 refine aK6 hE back Z s J A B t.steps H (arb s A t.steps at_ d b) (λL M' f j a' w' I z=>?_) ops.size _ M (T.Bs 0) 0 a _ (by unfold left;exact Nat.le_trans List.countP_le_length (by simp)) (.inl I0);have:=arb (out:=.nor v k) J B H at_ (by simp) (by
  show tJ keep T.E (λfr=>.nor fr ((tY T (bG pre) K k).Cs (bG (pl2 pre y x)))) ops.toList fr=_;rw[hF,aqY,avA]) L M' f j a' w' I z
 rw[m];obtain⟨M2,g,Y⟩:=this;have he:∀r,(T.Cs (bG pre+2)).get r=k.get r:=λr=>by rw[Q,Fg]
 have hn:(T.Cs (bG pre+2)).next=k.next:=by rw[(A.ct _).2,Fn]
 exact⟨M2,⟨g.rel.congr he hn,g.fr,g.size,g.plain⟩,Y.congr he hn⟩
end
section
variable{P:Program}{e:FuncId->Option Fun}{ops:Array Oper}{keep:Nat->Bool}{G N:Nat}
def aDI:Plan->Option (Plan×Nat×Nat)
 | []=>none
 |z::l=>(match aDI l with
  |some (pre,x,y)=>some (z::pre,x,y)
  |none=>(match l with
   | []=>none
   |b::a=>(match a with
    | []=>some ([],z.1,b.1)
    |_::_=>none)))
def apj(ops:Array Oper)(x:Nat):Bool:=match ops[x]? with
 |some o=>(match o.guard,o.dst,o.op with
  |none,none,.store _ _ _=>true
  |_,_,_=>false)
 |none=>false
theorem aqU{x:Nat}(h:apj ops x=true):aDj ops x:=by
 unfold apj at h;split at h
 ·rename_i o f;split at h
  ·rename_i t a g b c d;exact⟨o,t,a,g,f,b,c,d⟩
  ·cases h
 ·cases h
def acu(ops:Array Oper)(ms:List Nat)(G N:Nat)(pre:Plan)(x y:Nat):Bool:=
 VZ ops ms&&(aey ops (xY ms) (sbP (xY ms) x y) G N (pl2 pre x y)&&(aey ops (xY ms) (sbP (xY ms) y x) G N (pl2 pre y x)&&(apj ops x&&(apj ops y&&!(g! x y)))))
theorem auK{ms:List Nat}(a:VZ ops ms=true){x y i j:Nat}(hi:i<ops.size)(h:sbP (xY ms) x y j i=true):Bef (EdP ops x y) j i:=by
 unfold sbP at h;rw[w!]at h;rcases h with h|h
 ·exact(jX a hi h).mono λ_ _ h=>.inl h
 ·rw[b!]at h;exact .one (.inr ⟨a! h.1,a! h.2⟩)
theorem aEe(r:P.follows .mixedOrders=true)(p:∀f F,e f=some F->aG P G f F){id:Nat}(d:∀o∈ops.toList,∀c,o.op≠ .defer c){ms:List Nat}{pre:Plan}{x y:Nat}(h:acu ops ms G N pre x y=true):
  dX P keep G N (.region id ops true) (apn P keep e ops (xY ms) pre x y):=by
 simp only[acu,b!,C!]at h;obtain⟨b,g,k,l,m,n⟩:=h;refine dX.pair r p d (λj i q=>Yz b q) (u! n) ?_ ?_ (aqU l) (aqU m)
 ·exact anz (λhi a=>(jX b hi a).mono λ_ _ h=>.inl h) (λhi a=>auK b hi a) g
 ·exact anz (λhi a=>(jX b hi a).mono λ_ _ h=>.inl h) (λhi a=>auK b hi a) k
def axC(P:Program)(G N:Nat)(keep:Nat->Bool)(e:FuncId->Option Fun)(ops:Array Oper)(ms:List Nat)(plan:Plan):F->Hp->Out:=match aDI plan with
 |some (pre,x,y)=>(match acu ops ms G N pre x y with|true=>apn P keep e ops (xY ms) pre x y|false=>λ_ _=>.bad)
 |none=>λ_ _=>.bad
theorem aBM(d:P.follows .mixedOrders=true)(b:∀f F,e f=some F->aG P G f F){id:Nat}(a:∀o∈ops.toList,∀c,o.op≠ .defer c){ms:List Nat}{plan:Plan}:
  dX P keep G N (.region id ops true) (axC P G N keep e ops ms plan):=by
 unfold axC;split
 ·split
  ·rename_i h;exact aEe d b a h
  ·exact .bad
 ·exact .bad
end
section
variable{P:Program}{G N:Nat}{keep:Nat->Bool}{e:FuncId->Option Fun}{ops:Array Oper}
def Je(t:Nat):List Nat->Bool
 | []=>false
 |u::l=>(match g! t u with|true=>true|false=>Je t l)
theorem ahy{t:Nat}:∀{l:List Nat},Je t l=true↔t∈l
 | []=>by simp[Je]
 |u::l=>by
  simp only[Je];split
  ·rename_i h;simp[a! h]
  ·rename_i h;simp[ahy,u! h]
def aeR(d:Option Nat)(a:List Nat):List Nat:=match d with
 |none=>a
 |some d=>a.filter λu=>not (g! u d)
def UD(d:Option Nat)(a:List Nat):List Nat:=match d with
 |none=>a
 |some d=>d::a
def ifB(v:V)(t f:Out):Out:=match v with| .bool b=>(match b with|true=>t|false=>f)|_=>.bad
def aA(r:R V)(k:V->Hp->Out):Out:=match r with| .ok v h=>k v h| .bad=>.bad
def gtO(o:Option V)(k:V->Out):Out:=match o with|some v=>k v|none=>.bad
def qF(o:Out)(k:F->Hp->Out):Out:=match o with
 | .nor fr h=>k fr h
 | .ret fr h=>.ret fr h
 | .ex i fr h=>.ex i fr h
 | .bad=>.bad
def Nh(P:Program)(keep:Nat->Bool)(e:FuncId->Option Fun)(ops:Array Oper):List Oper->List Nat->Env->F->Hp->Out
 | [],_,_,fr,h=>.nor fr h
 |o::l,a,env,fr,h=>(match o.guard with
  |none=>opK P keep e o env fr h (Nh P keep e ops l (aeR o.dst a))
  |some (j,b)=>(match (ops[j]?).bind (·.dst) with
   |none=>.bad
   |some d=>(match Je d a with
    |true=>wB keep o.dst V.undef env fr λenv fr=>Nh P keep e ops l (UD o.dst a) env fr h
    |false=>XQ d env fr λv env=>(match b with
     |true=>ifB v (opK P keep e o ((d,.bool true)::env) fr h (Nh P keep e ops l (aeR o.dst a))) (wB keep o.dst V.undef ((d,.bool false)::env) fr λenv fr=>Nh P keep e ops l (UD o.dst a) env fr h)
     |false=>ifB v (wB keep o.dst V.undef ((d,.bool true)::env) fr λenv fr=>Nh P keep e ops l (UD o.dst a) env fr h) (opK P keep e o ((d,.bool false)::env) fr h (Nh P keep e ops l (aeR o.dst a)))))))
def LeO(a b:Out):Prop:=a≠ .bad->b=a
theorem LeO.refl(a:Out):LeO a a:=λ_=>rfl
theorem LeO.bad(b:Out):LeO .bad b:=λh=>absurd rfl h
def EqE(env a:Env):Prop:=∀t,dn t env=dn t a
theorem EqE.refl(env:Env):EqE env env:=λ_=>rfl
theorem EqE.cons{env a:Env}(h:EqE env a)(d:Nat)(v:V):EqE ((d,v)::env) ((d,v)::a):=λt=>by rw[jm,jm,h t]
theorem EqE.known{env a:Env}(h:EqE env a){d:Nat}{v:V}(b:dn d a=some v):EqE ((d,v)::env) a:=λt=>by
 rw[jm];split
 ·rename_i e;subst e;exact b.symm
 ·exact h t
def BL(a:List Nat)(env:Env):Prop:=∀d∈a,dn d env=some V.undef
theorem auH{t:Nat}{env b:Env}{fr:F}{k j:V->Env->Out}(d:EqE env b)(i:∀v a c,EqE a c->(∀u x,dn u env=some x->dn u a=some x)->dn t a=some v->LeO (k v a) (j v c)):LeO (XQ t env fr k) (XQ t b fr j):=by
 unfold XQ;rw[<-d t];cases g:dn t env with
 |some v=>exact i v env b d (λ_ _ h=>h) g
 |none=>
  simp only[gt];cases fr.get (Pos.of t) with
  |none=>exact LeO.bad _
  |some v=>
   refine i v _ _ (d.cons t v) (λu x f=>?_) (by rw[jm,if_pos rfl]);rw[jm,if_neg (λe=>by subst e;rw[g]at f;cases f)];exact f
theorem aEf{x:Operand}{env j:Env}{fr:F}{k n:V->Env->Out}(l:EqE env j)(m:∀v d i,EqE d i->(∀u x,dn u env=some x->dn u d=some x)->LeO (k v d) (n v i)):LeO (X8 x env fr k) (X8 x j fr n):=by
 cases x with
 |tmp t=>exact auH l λv a b h g _=>m v a b h g
 |const c=>
  simp only[X8];split
  ·exact m _ _ _ l (λ_ _ h=>h)
  ·exact LeO.bad _
 |global g=>exact m _ _ _ l (λ_ _ h=>h)
 |func f=>exact m _ _ _ l (λ_ _ h=>h)
theorem aqe{fr:F}:∀{l:List Operand} {env c:Env} {k i:List V->Env->Out} (_:EqE env c) (_:∀vs a b,EqE a b->(∀u x,dn u env=some x->dn u a=some x)->LeO (k vs a) (i vs b)),LeO (ai9 l env fr k) (ai9 l c fr i)
 | [],_,_,_,_,d,f=>f [] _ _ d (λ_ _ h=>h)
 |_::l,_,_,_,_,d,f=>aEf d λv _ _ h g=>aqe (l:=l) h λvs _ _ h' j=>f (v::vs) _ _ h' λu x m=>j u x (g u x m)
theorem avk{d:Option Nat}{v:V}{env c:Env}{fr:F}{k j:Env->F->Out}(g:EqE env c)(i:∀a b fr,EqE a b->(∀u x,d≠some u->dn u env=some x->dn u a=some x)->(∀x,d=some x->dn x a=some v)->LeO (k a fr) (j b fr)):LeO (wB keep d v env fr k) (wB keep d v c fr j):=by
 cases d with
 |none=>exact i _ _ _ g (λ_ _ _ h=>h) (λx h=>by cases h)
 |some d=>
  have l:∀u x,some d≠some u->dn u env=some x->dn u ((d,v)::env)=some x:=λu x n f=>by rw[jm,if_neg (λe=>n (by rw[e]))];exact f
  have m:∀x,some d=some x->dn x ((d,v)::env)=some v:=λx f=>by cases f;rw[jm,if_pos rfl]
  simp only[wB,axZ];split<;>exact i _ _ _ (g.cons d v) l m
theorem aIb{o:Oper}{env f:Env}{fr:F}{h:Hp}{k g:Env->F->Hp->Out}(p:EqE env f)(q:∀d c fr h,EqE d c->(∀u x,o.dst≠some u->dn u env=some x->dn u d=some x)->LeO (k d fr h) (g c fr h)):LeO (opK P keep e o env fr h k) (opK P keep e o f fr h g):=by
 refine aqe p λvs d c l i=>?_;unfold bnd;cases iH P e o.op vs h with
 |bad=>exact LeO.bad _
 |ok v m=>exact avk l λa b fr n j _=>q a b fr m n λu x r s=>j u x r (i u x s)
theorem BL.drop{g:List Nat}{env a:Env}{d:Option Nat}(f:BL g env)(h:∀u x,d≠some u->dn u env=some x->dn u a=some x):BL (aeR d g) a:=by
 intro t b;cases d with
 |none=>exact h t _ (by simp) (f t b)
 |some d=>
  simp only[aeR,List.mem_filter]at b;have c:t≠d:=by
   intro e;subst e;have:=b.2;simp[D!]at this
  exact h t _ (λe=>c (by cases e;rfl)) (f t b.1)
theorem BL.add{f:List Nat}{env a:Env}{d:Option Nat}(c:BL f env)(h:∀u x,d≠some u->dn u env=some x->dn u a=some x)(i:∀x,d=some x->dn x a=some V.undef):BL (UD d f) a:=by
 intro t b;cases d with
 |none=>exact h t _ (by simp) (c t b)
 |some d=>
  by_cases e:t=d
  ·subst e;exact i t rfl
  ·simp only[UD,a?,e,false_or]at b;exact h t _ (λg=>e (by cases g;rfl)) (c t b)
theorem BL.known{c:List Nat}{env:Env}{d:Nat}{v:V}(b:BL c env)(f:dn d env=some v):BL c ((d,v)::env):=λt a=>by
 rw[jm];split
 ·rename_i e;subst e;rw[<-f];exact b t a
 ·exact b t a
theorem alL:∀(l:List Oper) (n:List Nat) (env i:Env) (fr:F) (h:Hp),BL n env->EqE env i->LeO (Nh P keep e ops l n env fr h) (oD P keep e ops l i fr h)
 | [],_,_,_,_,_,_,_=>LeO.refl _
 |o::l,n,env,i,fr,h,u,s=>by
  have yes:∀g f:Env,BL n g->EqE g f->LeO (opK P keep e o g fr h (Nh P keep e ops l (aeR o.dst n))) (opK P keep e o f fr h (oD P keep e ops l)):=λg f k p=>
   aIb p λa b fr h x w=>alL l _ a b fr h (k.drop w) x
  have no:∀g f:Env,BL n g->EqE g f->LeO (wB keep o.dst V.undef g fr λenv fr=>Nh P keep e ops l (UD o.dst n) env fr h) (wB keep o.dst V.undef f fr λenv fr=>oD P keep e ops l env fr h):=λg f k p=>
   avk p λa b fr x w C=>alL l _ a b fr h (k.add w C) x
  rcases z:o.guard with _|⟨j,b⟩
  ·simp only[Nh,oD,z];exact yes env i u s
  ·simp only[Nh,oD,z];cases H:(ops[j]?).bind (·.dst) with
   |none=>exact LeO.bad _
   |some d=>
    simp only[];cases D:Je d n with
    |true=>
     have y:dn d i=some (.tuple .nil):=by rw[<-s d];exact u d (ahy.1 D)
     simp only[XQ,y,aqZ];exact no env i u s
    |false=>
     refine auH s λv g f q B r=>?_;have k:BL n g:=λt E=>B _ _ (u t E)
     have m:dn d f=some v:=by rw[<-q d];exact r
     cases v<;>first|(cases b<;>exact LeO.bad _)|skip
     rename_i c;cases c<;>cases b
     ·exact yes _ _ (k.known r) (q.known m)
     ·exact no _ _ (k.known r) (q.known m)
     ·exact no _ _ (k.known r) (q.known m)
     ·exact yes _ _ (k.known r) (q.known m)
def AQ(P:Program)(e:FuncId->Option Fun)(ops:Array Oper)(sb:Nat->Nat->Bool)(fr:F)(k:Env->Hp->Out):Plan->List Nat->Env->Hp->Hp->List Hp->Pos->Out
 | [],_,env,_,cur,_,_=>k env cur
 |(i,c)::l,a,env,base,cur,past,q=>(match ops[i]? with
  |none=>.bad
  |some o=>(match o.guard with
   |none=>yj ops sb fr i env o.op.operands.toList λvs=>qQ P e o c vs base cur past q λv base cur past q=>tN o.dst v env λenv=>AQ P e ops sb fr k l a env base cur past q
   |some (g,b)=>(match (ops[g]?).bind (·.dst) with
    |none=>.bad
    |some d=>(match Je d a with
     |true=>J8 c base cur past q λbase cur past q=>tN o.dst V.undef env λenv=>AQ P e ops sb fr k l (UD o.dst a) env base cur past q
     |false=>(match dn d env with
      |none=>.bad
      |some v=>(match b with
       |true=>ifB v
        (yj ops sb fr i ((d,.bool true)::env) o.op.operands.toList λvs=>qQ P e o c vs base cur past q λv base cur past q=>tN o.dst v ((d,.bool true)::env) λenv=>AQ P e ops sb fr k l a env base cur past q)
        (J8 c base cur past q λbase cur past q=>tN o.dst V.undef ((d,.bool false)::env) λenv=>AQ P e ops sb fr k l (UD o.dst a) env base cur past q)
       |false=>ifB v
        (J8 c base cur past q λbase cur past q=>tN o.dst V.undef ((d,.bool true)::env) λenv=>AQ P e ops sb fr k l (UD o.dst a) env base cur past q)
        (yj ops sb fr i ((d,.bool false)::env) o.op.operands.toList λvs=>qQ P e o c vs base cur past q λv base cur past q=>tN o.dst v ((d,.bool false)::env) λenv=>AQ P e ops sb fr k l a env base cur past q)))))))
variable{sb:Nat->Nat->Bool}{fr:F}
theorem aEg{i:Nat}{env a:Env}{x:Operand}{k d:V->Out}(h:EqE env a)(b:∀v,LeO (k v) (d v)):LeO (aht ops sb fr i env x k) (aht ops sb fr i a x d):=by
 cases x with
 |tmp t=>
  simp only[aht,<-h t];split
  ·cases dn t env with
   |none=>exact LeO.bad _
   |some v=>exact b v
  ·simp only[gt];cases fr.get (Pos.of t) with
   |none=>exact LeO.bad _
   |some v=>exact b v
 |const c=>
  simp only[aht];split
  ·exact b _
  ·exact LeO.bad _
 |global g=>exact b _
 |func f=>exact b _
theorem aqg{i:Nat}{env a:Env}(c:EqE env a):∀{l:List Operand} {k d:List V->Out},(∀vs,LeO (k vs) (d vs))->LeO (yj ops sb fr i env l k) (yj ops sb fr i a l d)
 | [],_,_,b=>b []
 |_::l,_,_,b=>aEg c λv=>aqg c (l:=l) λvs=>b (v::vs)
theorem avl{d:Option Nat}{v:V}{env c:Env}{k j:Env->Out}(g:EqE env c)(i:∀a b,EqE a b->(∀u x,dn u env=some x->dn u a=some x)->(∀x,d=some x->dn x a=some v)->LeO (k a) (j b)):LeO (tN d v env k) (tN d v c j):=by
 cases d with
 |none=>exact i _ _ g (λ_ _ h=>h) (λx h=>by cases h)
 |some d=>
  simp only[tN,<-g d];cases l:dn d env with
  |some _=>exact LeO.bad _
  |none=>exact i _ _ (g.cons d v) (λu x f=>by rw[jm,if_neg (λe=>by subst e;rw[l]at f;cases f)];exact f) (λx f=>by cases f;rw[jm,if_pos rfl])
theorem azK{m:Hp->R V}{v:V}{k b:Out}(a:LeO k b):∀(n:Nat) (l:List Hp),LeO (chk m v k n l) (chk m v b n l)
 |0,[]=>a
 |0,_::_=>a
 |n+1,[]=>a
 |n+1,g::l=>by
  unfold chk;split
  ·split
   ·exact azK a n l
   ·exact LeO.bad _
  ·exact LeO.bad _
theorem aEr{op:Op}{vs:List V}{base cur:Hp}{q:Pos}{k b:Hp->Out}(o:∀h,LeO (k h) (b h)):LeO (ahD P op vs base cur q k) (ahD P op vs base cur q b):=by
 intro a;obtain⟨p,x,y,es,rfl,⟨t,r,kk,vv,v,s,d,rfl,c,f,i⟩,j,l,m,n,u⟩:=avc a rfl;have key:∀g:Hp->Out,ahD P (.insert t r kk vv) [.map p,x,y] base cur q g=g (cur.put p (some (.map (es++ [(x,y)])))):=λg=>by
  simp only[ahD,c,f,aB4,i,show o! p.nat q.nat=true by simpa[n!]using j,l,m,n]
 rw[key,key];rw[key]at a;exact o _ a
theorem aEM{o:Oper}{c:Cls}{vs:List V}{base cur:Hp}{past:List Hp}{q:Pos}{k d:V->Hp->Hp->List Hp->Pos->Out}(b:∀v base cur past q,LeO (k v base cur past q) (d v base cur past q)):LeO (qQ P e o c vs base cur past q k) (qQ P e o c vs base cur past q d):=by
 cases c with
 |pure=>
  simp only[qQ];split
  ·simp only[bnd];split
   ·exact b _ _ _ _ _
   ·exact LeO.bad _
  ·exact LeO.bad _
 |read n=>
  simp only[qQ];split
  ·simp only[bnd];split
   ·exact azK (b _ _ _ _ _) _ _
   ·exact LeO.bad _
  ·exact LeO.bad _
 |alloc=>
  simp only[qQ];split
  ·exact b _ _ _ _ _
  ·exact LeO.bad _
 |heavy=>
  simp only[qQ,bnd];split
  ·exact b _ _ _ _ _
  ·exact LeO.bad _
 |own a=>
  simp only[qQ];split
  ·split
   ·unfold aBN;split
    ·split
     ·simp only[bnd];split
      ·exact b _ _ _ _ _
      ·exact LeO.bad _
     ·exact LeO.bad _
    ·exact LeO.bad _
   ·exact LeO.bad _
  ·exact LeO.bad _
 |ins a=>
  simp only[qQ];exact aEr λh=>b _ _ _ _ _
theorem aBB{c:Cls}{base cur:Hp}{past:List Hp}{q:Pos}{k a:Hp->Hp->List Hp->Pos->Out}(b:∀base cur past q,LeO (k base cur past q) (a base cur past q)):LeO (J8 c base cur past q k) (J8 c base cur past q a):=by
 cases c<;>exact b _ _ _ _
theorem ahM{k B:Env->Hp->Out}(H:∀env f h,EqE env f->LeO (k env h) (B f h)):∀(l:Plan) (s:List Nat) (env f:Env) (base cur:Hp) (past:List Hp) (q:Pos),BL s env->EqE env f->LeO (AQ P e ops sb fr k l s env base cur past q) (wE P e ops sb fr B l f base cur past q)
 | [],_,env,f,_,cur,_,_,_,n=>H env f cur n
 |(i,c)::l,s,env,f,base,cur,past,q,w,n=>by
  cases I:ops[i]? with
  |none=>simp only[AQ,I];exact LeO.bad _
  |some o=>
   have yes:∀m j:Env,BL s m->EqE m j->LeO (yj ops sb fr i m o.op.operands.toList λvs=>qQ P e o c vs base cur past q λv base cur past q=>tN o.dst v m λenv=>AQ P e ops sb fr k l s env base cur past q)
     (yj ops sb fr i j o.op.operands.toList λvs=>qQ P e o c vs base cur past q λv base cur past q=>tN o.dst v j λenv=>wE P e ops sb fr B l env base cur past q):=λm j y p=>
    aqg p λvs=>aEM λv base cur past q=>avl p λa b D C _=>ahM H l s a b base cur past q (λt M=>C _ _ (y t M)) D
   have no:∀m j:Env,BL s m->EqE m j->LeO (J8 c base cur past q λbase cur past q=>tN o.dst V.undef m λenv=>AQ P e ops sb fr k l (UD o.dst s) env base cur past q)
     (J8 c base cur past q λbase cur past q=>tN o.dst V.undef j λenv=>wE P e ops sb fr B l env base cur past q):=λm j y p=>
    aBB λbase cur past q=>avl p λa b D C K=>ahM H l _ a b base cur past q (y.add (λu x _=>C u x) K) D
   rcases J:o.guard with _|⟨g,b⟩
   ·simp only[AQ,wE,I,J];exact yes env f w n
   ·simp only[AQ,wE,I,J];cases O:(ops[g]?).bind (·.dst) with
    |none=>exact LeO.bad _
    |some d=>
     simp only[];cases L:Je d s with
     |true=>
      have E:dn d f=some (.tuple .nil):=by rw[<-n d];exact w d (ahy.1 L)
      simp only[E,aB7];exact no env f w n
     |false=>
      simp only[<-n d];cases z:dn d env with
      |none=>exact LeO.bad _
      |some v=>
       have r:dn d f=some v:=by rw[<-n d];exact z
       cases v<;>first|(cases b<;>exact LeO.bad _)|skip
       rename_i t;cases t<;>cases b
       ·exact yes _ _ (w.known z) (n.known r)
       ·exact no _ _ (w.known z) (n.known r)
       ·exact no _ _ (w.known z) (n.known r)
       ·exact yes _ _ (w.known z) (n.known r)
theorem aeM{E b:Env}(a:EqE E b){k:F->Out}:∀(l:List Oper) (fr:F),tJ keep E k l fr=tJ keep b k l fr
 | [],_=>rfl
 |o::l,fr=>by
  simp only[tJ];split
  ·exact aeM a l fr
  ·rename_i d _;split
   ·exact aeM a l fr
   ·rw[<-a d];split
    ·exact aeM a l _
    ·rfl
def aDP(P:Program)(keep:Nat->Bool)(e:FuncId->Option Fun)(ops:Array Oper)(sb:Nat->Nat->Bool)(plan:Plan)(fr:F)(h:Hp):Out:=
 AQ P e ops sb fr (λE h=>tJ keep E (λfr=>.nor fr h) ops.toList fr) plan [] [] ⟨h.t,bump (jr plan) h.next⟩ ⟨h.t,bump (jr plan) h.next⟩ [] h.next
theorem aCm{plan:Plan}(fr:F)(h:Hp):LeO (aDP P keep e ops sb plan fr h) (ax9 P keep e ops sb plan fr h):=
 ahM (λenv a h b=>by rw[aeM b];exact LeO.refl _) plan [] [] [] _ _ _ _ (λ_ h=>by cases h) (EqE.refl _)
theorem dX.le{c:Code}{D d:F->Hp->Out}(f:dX P keep G N c D)(h:∀fr g,LeO (d fr g) (D fr g)):dX P keep G N c d:=by
 intro ro n Df fr g M a w b at_;have e:=h fr g b;rw[<-e];exact f _ _ _ fr g M a w (by rw[e];exact b) at_
def aV(c:Operand)(a b:F->Hp->Out)(fr:F)(h:Hp):Out:=X8 c [] fr λv _=>ifB v (a fr h) (b fr h)
theorem avq(c:Operand)(a b:F->Hp->Out):aV c a b=amk c a b:=by
 funext fr h;rfl
def kV(P:Program)(G N:Nat)(keep:Nat->Bool)(e:FuncId->Option Fun)(pl:bV)(lf:Nat):Code->F->Hp->Out
 | .skip=>.nor
 | .label _=>.nor
 | .region id ops d=>(match d with
  |false=>Nh P keep e ops ops.toList [] []
  |true=>(match pl id with
   |some (ms,plan)=>(match acs ops ms G N plan with|true=>aDP P keep e ops (xY ms) plan|false=>axC P G N keep e ops ms plan)
   |none=>λ_ _=>.bad))
 | .seq a b=>aB (kV P G N keep e pl lf a) (kV P G N keep e pl lf b)
 | .cond c a b=>aV c (kV P G N keep e pl lf a) (kV P G N keep e pl lf b)
 | .block id b=>bK id (kV P G N keep e pl lf b)
 | .loop b=>dI (kV P G N keep e pl lf b) lf
 | .exit id=>.ex id
 | .ret=>.ret
 | .scope b=>kV P G N keep e pl lf b
 |_=>λ_ _=>.bad
theorem dU(k:P.follows .mixedOrders=true)(j:∀f F,e f=some F->aG P G f F)(pl:bV)(lf:Nat):(c:Code)->codeOk G N c=true->dX P keep G N c (kV P G N keep e pl lf c)
 | .skip,_=>.nor λ_ _ _ _ _ h=>wpIn_skip h
 | .label _,_=>.nor λ_ _ _ _ _ h=>wpIn_label h
 | .region id ops d,i=>by
  cases d with
  |true=>
   simp only[kV];split
   ·split
    ·rename_i l;exact(dX.draw k j (anZ i) (atA l) (azb l)).le λfr h=>aCm fr h
    ·exact aBM k j (anZ i)
   ·exact .bad
  |false=>
   have:=dX.region (keep:=keep) (id:=id) j (λo n=>by simp only[codeOk,c!]at i;exact i o n);exact this.le λfr h=>alL _ [] [] [] fr h (λ_ h=>by cases h) (EqE.refl _)
 | .seq a b,i=>by simp only[codeOk,b!]at i;exact .seq (dU k j pl lf a i.1) (dU k j pl lf b i.2)
 | .cond c a b,i=>by
  simp only[codeOk,b!]at i;simp only[kV,avq];refine .cond (λg m=>?_) (dU k j pl lf a i.2.1) (dU k j pl lf b i.2.2);subst m;simpa[n!]using i.1
 | .block id b,i=>.block (dU k j pl lf b i)
 | .loop b,i=>.loop (dU k j pl lf b i) lf
 | .exit id,_=>λ_ _ _ fr h M a w _ at_=>wpIn_exit ⟨rfl,M,at_,.refl at_.rel⟩
 | .ret,_=>λ_ _ _ fr h M a w _ at_=>wpIn_ret ⟨M,at_,.refl at_.rel⟩
 | .scope b,i=>.scope (dU k j pl lf b i)
 | .goto _,_=>.bad
 | .rangeFunc ..,_=>.bad
 | .refuse _,_=>.bad
def dL(P:Program)(G:Nat)(keep:Nat->Bool)(e:FuncId->Option Fun)(pl:bV)(lf:Nat)(fn:Func):Fun:=match fn.body with
 |some c=>bC P keep fn.ntmps fn.results.toList (kV P G fn.ntmps keep e pl lf c)
 |none=>λ_ _=>.bad
theorem bI(g:P.follows .mixedOrders=true){f:FuncId}{fn:Func}{pl:bV}{lf:Nat}(b:∀f F,e f=some F->aG P G f F)(d:P.funcs[f]?=some fn)(a:apl G fn=true):aG P G f (dL P G keep e pl lf fn):=by
 unfold apl at a;simp only[b!,C!]at a;unfold dL;cases hb:fn.body with
 |none=>rw[hb]at a;cases a.1
 |some c=>
  rw[hb]at a;exact avw d a.2 hb (dU g b pl lf c a.1)
end
section
variable{P:Program}{G:Nat}{M:Mp}{h h':Hp}{w:World}
theorem Rel.store1(D:Rel G M h w){i:Pos}{cs k:List V}{L:Loc}{o:Nat}{v:V}{c:Value}{t:TypeId}{f:Bool}(hi:h.get i=some (.cells (.rw t f) cs))(z:M i=some L)(C:iZ o [v] cs=some k)(Q:Rp M v c)(E:scalar c=true):
  (∃u,w.cell? (L.at o)=some u)/\w.frozen? (L.at o)=false/\Rel G M (h.put i (some (.cells (.rw t f) k))) (w.setCell (L.at o) c)/\Ext M h w M (h.put i (some (.cells (.rw t f) k))) (w.setCell (L.at o) c):=by
 obtain⟨w',I,J,K⟩:=D.store (P:=default) hi z C (xs:= [c]) ⟨c,[],Q,rfl,rfl⟩ (by simpa using E);obtain⟨q,_⟩:=Ee o [v] C;obtain⟨S,n,U,el,fr,hb,O,m,y⟩:=D.ob i _ hi;rw[z]at n;cases n;simp at q;obtain⟨x,s,_⟩:=m o cs[o] (List.getElem?_eq_getElem (by omega));have N:=(e!.1 s).1;have B:w.cell? (L.at o)=some x:=by simp[World.cell?,Loc.at,hb,s]
 have b:w.frozen? (L.at o)=false:=by
  have:=y.2.1 (L.off+o) (by omega) (by omega);simp only[World.frozen?,Loc.at,hb];rw[<-Bool.not_eq_true];intro hh;rw[b!]at hh;exact this ⟨of_decide_eq_true hh.1,of_decide_eq_true hh.2⟩
 have d:=run_storeCells_cells (P:=default) L.blk (L.off+o) [c] 0 w
  (λj r=>by
   simp at r;subst r;show(w.cell? (L.at o)).isSome=true;rw[B];rfl)
  (λj r=>by simp at r;subst r;exact b)
  (λv H=>by simp at H;subst H;exact OG E)
 simp only[e?]at d;have e:w'=w.setCell (L.at o) c:=by
  have e1:(storeCells (L.at o) [c]).run default w=.ok () (w.setCells L.blk (L.off+o) [c]):=d;rw[I]at e1;cases e1;rfl
 subst e;exact⟨⟨x,B⟩,b,J,K⟩
def Tn(k c:IntKind):Bool:=g! (kix k) (kix c)
def YT(k:IntKind):Fun:=λargs h=>match args with
 | [x]=>rP x λi o=>dP h i λ_ cs=>match I9 o cs with
  |some v=>(match v with
   | .int c n=>(match Tn k c with|true=>.ok (.int k n) h|false=>.bad)
   |_=>.bad)
  |none=>.bad
 |_=>.bad
def KX:Fun:=λargs h=>match args with
 | [x,y]=>(match y with
  | .int k n=>rP x λi o=>dP h i λwr cs=>(match wr with
   | .rw t f=>(match iZ o [.int k n] cs with|some c=>.ok V.undef (h.put i (some (.cells (.rw t f) c)))|none=>.bad)
   | .ro=>.bad)
  |_=>.bad)
 |_=>.bad
def Wi(k:IntKind):Fun:=λargs h=>match args with
 | [x,y]=>(match y with
  | .int e m=>rP x λi o=>dP h i λwr cs=>(match I9 o cs with
   |some v=>(match v with
    | .int d n=>(match Tn k d,Tn k e with
     |true,true=>(match wr with
      | .rw t f=>(match iy k (vO k (n+m)) h with
       | .ok s _=>(match iZ o [s] cs with|some c=>.ok s (h.put i (some (.cells (.rw t f) c)))|none=>.bad)
       | .bad=>.bad)
      | .ro=>.bad)
     |_,_=>.bad)
    |_=>.bad)
   |none=>.bad)
  |_=>.bad)
 |_=>.bad
theorem XY{k c:IntKind}(h:Tn k c=true):k=c:=Jf h
variable{f:FuncId}{fn:Func}(b:P.funcs[f]?=some fn)(a:(fn.name== "runtime.NumGoroutine")=false)(hb:fn.body.isNone=true)(l:U! fn=none)
include b a hb l
theorem atS(k:IntKind)(u:q! fn=some (Extern.Atomic.loadT (.int k))):aG P G f (YT k):=by
 intro args h r h' M w cargs e j s;unfold YT at e;split at e
 ·rename_i x;obtain⟨i,o,rfl,e1⟩:=kX e;clear e;obtain⟨wr,cs,hi,e⟩:=fZ e1;clear e1;obtain⟨c,d,t,D,rfl⟩:=s;rw[show d= [] from D];obtain⟨L,q,rfl⟩:=t.ptr;rw[mY]at e;split at e
  ·rename_i v B;split at e
   ·rename_i E n;split at e
    ·rename_i z;have:=XY z;subst this;cases e;obtain⟨y,C,m,_⟩:=j.cell hi q B;cases m.int;rw[show [J! (some (L.at o))].toArray= #[.pointer (some (L.at o))] from rfl,run_call_load b a hb l k u C];exact⟨M,gB M _ _,j,.refl j⟩
    ·cases e
   ·cases e
  ·cases e
 ·cases e
theorem acU(C:q! fn=some Extern.Atomic.storeT):aG P G f KX:=by
 intro args h r h' M w cargs e E v;unfold KX at e;split at e
 ·rename_i x y;split at e
  ·rename_i k n;obtain⟨i,o,rfl,e1⟩:=kX e;clear e;obtain⟨wr,cs,hi,e⟩:=fZ e1;clear e1;obtain⟨c,m,z,⟨d,ds,B,I,rfl⟩,rfl⟩:=v;rw[show ds= [] from I];obtain⟨L,t,rfl⟩:=z.ptr;cases B.int;split at e
   ·split at e
    ·rename_i D;cases e;obtain⟨⟨u,H⟩,j,q,s⟩:=E.store1 (pV hi) t D (gB M k n) rfl;rw[show [J! (some (L.at o)),.int k n].toArray= #[.pointer (some (L.at o)),.int k n] from rfl,run_call_store b a hb l C H j];exact⟨M,oC M,q,s⟩
    ·cases e
   ·cases e
  ·cases e
 ·cases e
theorem ajM(k:IntKind)(N:q! fn=some (Extern.Atomic.update (Op.intArith .add) k true)):aG P G f (Wi k):=by
 intro args h r h' M w cargs e C I;unfold Wi at e;split at e
 ·rename_i x y;split at e
  ·rename_i X m;obtain⟨i,o,rfl,e1⟩:=kX e;clear e;obtain⟨wr,cs,hi,e⟩:=fZ e1;clear e1;obtain⟨c,D,J,⟨d,ds,K,U,rfl⟩,rfl⟩:=I;rw[show ds= [] from U];obtain⟨L,B,rfl⟩:=J.ptr;cases K.int;rw[mY]at e;split at e
   ·rename_i v S;split at e
    ·rename_i W n;split at e
     ·rename_i O q;have:=XY O;subst this;have:=XY q;subst this;obtain⟨z,u,t,_⟩:=C.cell hi B S;cases t.int;split at e
      ·rw[fU,zl]at e;simp only[]at e;split at e
       ·rename_i Q;cases e;obtain⟨_,j,E,H⟩:=C.store1 (pV hi) B Q (gB M k (k.wrap (n+m))) rfl;rw[show [J! (some (L.at o)),.int k m].toArray= #[.pointer (some (L.at o)),.int k m] from rfl,run_call_add b a hb l k N u j (s:=k.wrap (n+m)) rfl];exact⟨M,gB M _ _,E,H⟩
       ·cases e
      ·cases e
     ·cases e
    ·cases e
   ·cases e
  ·cases e
 ·cases e
def apd:Fun:=λargs h=>match args with| [x]=>.ok x h|_=>.bad
theorem apT(m:q! fn=some Extern.AbiNoEscape.same):aG P G f apd:=by
 intro args h r h' M w cargs e i j;unfold apd at e;split at e
 ·cases e;obtain⟨c,d,k,n,rfl⟩:=j;rw[show d= [] from n,run_callFunc_extern b a hb l m];exact⟨M,k,i,.refl i⟩
 ·cases e
def acF(el:TypeId):Fun:=λargs h=>match args with
 | [x]=>(match x with
  | .int k n=>(match Tn .i64 k with
   |true=>(match n with
    | .ofNat n=>(match k! n 140737488355328 with
     |true=>.ok (.slice h.next 0 n (.un 1)) (h.new (.cells (.rw el false) []))
     |false=>.bad)
    | .negSucc _=>.bad)
   |false=>.bad)
  |_=>.bad)
 |_=>.bad
theorem anI{ps:Array TypeId}{t el:TypeId}(C:P.underlying t=some (.slice el))(z:q! fn=some (Extern.BytealgMakeNoZero.makeNoZero ps #[t])):aG P G f (acF el):=by
 intro args h r h' M w cargs e B u;unfold acF at e;split at e
 ·rename_i x;split at e
  ·rename_i k E;split at e
   ·rename_i m;have:=XY m;subst this;split at e
    ·rename_i n;split at e
     ·rename_i d;have d:=l! d;cases e;obtain⟨c,j,y,D,rfl⟩:=u;rw[show j= [] from D];cases y.int;obtain⟨cs,i,q,s⟩:=Go.Lib.run_makeNoZero (P:=P) w ps t el C n (by omega);rw[run_callFunc_extern b a hb l z];rw[show [k? .i64 (Int.ofNat n)].toArray= #[k? .i64 (n:Int)] from rfl,i];have:=B.new (.cells (.rw el false) []) (.cells cs el (0,0)) cs.size (w':=w.drew.drew.alloc (.cells cs el)) rfl rfl rfl rfl
       (λN _=>⟨cs,el,(0,0),by simp only[World.alloc];exact Array.getElem?_push_size,rfl,λk v m=>(by simp at m),rfl,λk _ _ h=>(by simp at h),λh=>(by cases h)⟩)
      refine⟨_,?_,this.1,this.2.1⟩;exact iY (o:=0) (M.eF h.next ⟨w.heap.size,0,cs.size⟩) ⟨⟨q,s (by unfold maxLen;omega)⟩,by show 0+0+cs.size*1=cs.size;omega⟩
     ·cases e
    ·cases e
   ·cases e
  ·cases e
 ·cases e
end
section
variable{P:Program}{G:Nat}{M:Mp}{h:Hp}{w:World}
theorem aY:∀f F,(λ_=>none:FuncId->Option Fun) f=some F->aG P G f F:=λ_ _ h=>by cases h
theorem aS{g:FuncId}{F:Fun}{e:FuncId->Option Fun}(b:aG P G g F)(c:∀f F,e f=some F->aG P G f F):∀f a,(λf=>match g! f g with|true=>some F|false=>e f:FuncId->Option Fun) f=some a->aG P G f a:=by
 intro f a h;simp only[]at h;split at h
 ·rename_i hb;cases h;rw[a! hb];exact b
 ·exact c f a h
def lf:Nat:=10000000000000000000
def codeOf(fn:Func):Code:=fn.body.getD .skip
structure Seen (G:Nat) (M:Mp) (h:Hp) (w:World):Prop where
 rel:Rel G M h w
 un:∀i o,h.get i=some o->o.own=false
def h0(G:Nat):Hp:=⟨.nil,Pos.of G⟩
def m0(G:Nat):Mp:=λp=>if p.nat<G then some ⟨p.nat,0,0⟩ else none
theorem acN(G:Nat)(i:Pos):(h0 G).get i=none:=T.get_nil i
theorem Seen.empty(G:Nat)(w:World):Seen G (m0 G) (h0 G) w:=by
 refine⟨⟨λi o hi=>?_,λi hi=>?_,λi j o p L K _ hi=>?_,λg a=>⟨0,?_⟩⟩,λi o hi=>?_⟩
 ·rw[acN]at hi;cases hi
 ·have:G<=i.nat:=by have:=hi;rw[show(h0 G).next=Pos.of G from rfl,Pos.gG]at this;exact this
  unfold m0;rw[if_neg (by omega)]
 ·rw[acN]at hi;cases hi
 ·unfold m0;rw[Pos.gG,if_pos a]
 ·rw[acN]at hi;cases hi
theorem atK{f:FuncId}{F:Fun}{fn:Func}{c:Code}(l:aG P G f F)(n:P.funcs[f]?=some fn)(q:(fn.name== "runtime.NumGoroutine")=false)(hb:fn.body=some c)(S:Seen G M h w){args:List V}{cargs:List Value}(m:bU M args cargs){h':Hp}
  (e:F args h=.ok (.bool true) h'):Calls P f cargs.toArray w λe w'=>e=.returned (.bool true)/\Below w.heap.size w w':=by
 have:=l args h _ h' M w cargs e S.rel m;have a:(callFunc f cargs.toArray).run P w=.ok (.enter f cargs.toArray) w:=by
  unfold callFunc;rw[Sem.run_bind,run_program];have d:¬fn.name= "runtime.NumGoroutine" :=by simpa using q
  simp[n,d,hb]
 rw[a]at this;refine Calls.mono this ?_;rintro e w' ⟨s,rfl,M',r,j,b⟩;have:=r.bool
 subst this;refine⟨rfl,b.os,b.tape,b.output,b.size,λk p=>b.same k p λi o L hi g _=>?_⟩;rw[S.un i o hi]at g;cases g
theorem Opq.mono{p q:Value->World->Prop}(a:∀c w,p c w->q c w){r:Result Next}(h:Opq P p r):Opq P q r:=by
 unfold Opq at h⊢;split at h
 ·exact a _ _ h
 ·exact a _ _ h
 ·exact Calls.mono h λe w' ⟨c,e1,e2⟩=>⟨c,e1,a _ _ e2⟩
 ·exact h.elim
theorem Rel.after{w':World}{M':Mp}{h':Hp}(r:Rel G M h w)(x:Ext (m0 G) (h0 G) w M' h' w'):Rel G M h w'/\Ext M h w M h w':=by
 have hb:∀b,b<w.heap.size->w'.heap[b]?=w.heap[b]?:=λb hb=>x.same b hb λi o L hi _ _=>by rw[acN]at hi;cases hi
 refine⟨⟨λi o hi=>?_,r.fresh,r.sep,r.gl⟩,⟨M.le_refl,y! _,x.os,x.tape,x.output,x.size,λb d _=>hb b d,λi o L a b c=>.inr ⟨i,o,L,a,b,c,rfl⟩,λ_ _ h=>h,λi o L a b=>.inr ⟨i,o,L,a,b,rfl⟩,λ_ _ h=>h⟩⟩;obtain⟨L,f,e⟩:=r.ob i o hi;exact⟨L,f,e.of_block (hb _ e.lt)⟩
def DW(c:Nat):List Nat->Int
 | []=> -1
 |d::l=>(match g! d c with
  |true=>0
  |false=>(match DW c l with
   | .ofNat n=>.ofNat (n+1)
   | .negSucc _=> -1))
theorem aEt(c:Nat)(l:List Nat): -1<=DW c l:=by
 induction l with
 |nil=>simp[DW]
 |cons d l a=>
  simp only[DW];split
  ·omega
  ·split
   ·rename_i n _;have:(0:Int)<=Int.ofNat (n+1):=Int.natCast_nonneg _;omega
   ·omega
theorem ave{c:Nat}(f:c<256):∀{s:List Nat},(∀b∈s,b<256)->DW c s=Go.Lib.indexByte (s.map UInt8.ofNat) (UInt8.ofNat c)
 | [],_=>rfl
 |d::l,h=>by
  have i:=ave f (s:=l) λb hb=>h b (by simp[hb]);have g:=h d (by simp);have a:=aEt c l;simp only[DW,b?,Go.Lib.indexByte,<-i];have e:(UInt8.ofNat d==UInt8.ofNat c)=g! d c:=by
   rw[Bool.eq_iff_iff];simp only[beq_iff_eq];exact⟨λh=>by rw[Fp g f h];exact D! c,λh=>by rw[a! h]⟩
  rw[e];cases g! d c with
  |true=>rfl
  |false=>
   simp only[Bool.false_eq_true,if_false];cases hi:DW c l with
   |ofNat n=>
    have:(Int.ofNat n== -1)=false:=by rw[beq_eq_false_iff_ne];intro h;cases h
    rw[this];rfl
   |negSucc n=>
    have:n=0:=by rw[hi]at a;omega
    subst this;rfl
def aqX:Fun:=λargs h=>match args with
 | [s,c]=>(match s with
  | .str l=>(match c with
   | .int k n=>(match g! (kix k) 4 with
    |true=>(match n with
     | .ofNat b=>(match o! b 256 with|true=>iy .i64 (DW b l) h|false=>.bad)
     | .negSucc _=>.bad)
    |false=>.bad)
   |_=>.bad)
  |_=>.bad)
 |_=>.bad
theorem al9{f:FuncId}{fn:Func}(v:P.funcs[f]?=some fn)(d:(fn.name== "runtime.NumGoroutine")=false)(hb:fn.body.isNone=true)(y:U! fn=none)(u:q! fn=some Extern.BytealgIndexByte.indexByte):aG P G f aqX:=by
 intro args h r h' M w cargs e t a;unfold aqX at e;split at e
 ·rename_i s c;split at e
  ·rename_i l;split at e
   ·rename_i k n;split at e
    ·rename_i x;have p:k=.u8:=by cases k<;>first|rfl|cases x
     subst p;split at e
     ·rename_i b;split at e
      ·rename_i i;have j:b<256:=by simpa[n!]using i
       obtain⟨cs,C,o,⟨B,z,m,q,rfl⟩,rfl⟩:=a;rw[show z= [] from q];obtain⟨hl,rfl⟩:=o.str;have g:=m.int;subst g;rw[fU]at e;cases e;rw[run_callFunc_extern v d hb y u,Go.Lib.run_indexByteString];simp only[Result.andThen,Opq];refine⟨M,?_,t,.refl t⟩;have e1:(bts l).data.toList=l.map UInt8.ofNat:=by simp[bts]
       have e2:((Int.ofNat b).toNat.toUInt8)=UInt8.ofNat b:=rfl;rw[e1,e2,<-ave j hl];exact gB M _ _
      ·cases e
     ·cases e
    ·cases e
   ·cases e
  ·cases e
 ·cases e
end
section
variable{P:Program}{G:Nat}
def alV(el:TypeId)(h:Hp):R V:=.ok (.slice h.next 0 0 (.kn 0)) (h.new (.cells (.rw el true) []))
def aeG(op:BinOp)(a:List (TypeDesc×Nat))(x y:V)(h:Hp):R V:=match x,y with
 | .agg xs,.agg ys=>(match Kq a xs.list ys.list with
  |some b=>(match op with| .eql=>fE b h| .neq=>fE (not b) h|_=>.bad)
  |none=>.bad)
 |_,_=>.bad
def FQ(a:A)(k:Ob->(Pos->V)->Out):Out:=match a with|some (ob,mk)=>k ob mk|none=>.bad
def aI(n:Nat)(h:Hp):Hp:=⟨h.t,bump n h.next⟩
theorem avf{fn:Func}{keep:Nat->Bool}{e:FuncId->Option Fun}{pl:bV}{l:Nat}{D:F->Hp->Out}(hb:fn.body=some (codeOf fn))(a:kV P G fn.ntmps keep e pl l (codeOf fn)=D){args:List V}(b:k! args.length fn.ntmps=true)(h:Hp):
  dL P G keep e pl l fn args h=aU P fn.results.toList (D (DJ keep 0 args .nil) h):=by
 unfold dL;rw[hb];simp only[bC,b,a]
end
structure CaseTy (P:Program) (g:Nat) (tU tI tA tR tS:TypeId) (f0 f1 f2:Field):Prop where
 name:P.globalNamed "unicode.CaseRanges" =some g
 glob:(P.globals[g]?).map (·.type)=some tS
 s:P.underlying tS=some (.slice tR)
 r:P.underlying tR=some (.struct #[f0,f1,f2])
 a:P.underlying tA=some (.array 3 tI)
 u:P.underlying tU=some (.int .u32)
 i:P.underlying tI=some (.int .i32)
 ty:(f0.type=tU/\f1.type=tU)/\f2.type=tA
 off:(f0.offset=0/\f1.offset=1)/\f2.offset=2
 cu:P.cellsOf tU=1
 ci:P.cellsOf tI=1
 ca:P.cellsOf tA=3
 cr:P.cellsOf tR=5
section
variable{P:Program}{g:Nat}{tU tI tA tR tS:TypeId}{f0 f1 f2:Field}{w:World}
theorem aLo(C:CaseTy P g tU tI tA tR tS f0 f1 f2){x:CaseRow}(f:rowWf x=true)(n:Nat):z! (λ_=>()) P w 0 (λ_=>true) false (n+3) tR (cells5 x)=some (rowData x,[]):=by
 obtain⟨⟨l,m⟩,t2⟩:=C.ty;obtain⟨⟨h,j⟩,k⟩:=C.off;obtain⟨a,b,c,d,e⟩:=x;simp only[rowWf,b!]at f;obtain⟨⟨⟨⟨o,p⟩,q⟩,s⟩,t⟩:=f;have three:B! 3= [0,1,2]:=rfl;simp[z!,C.r,C.a,C.u,C.i,C.cu,C.ci,C.ca,C.cr,l,m,t2,h,j,k,cells5,rowData,o,p,q,s,t,three]
theorem aLn(C:CaseTy P g tU tI tA tR tS f0 f1 f2){R:Nat}{t:TypeId}{c:Nat×Nat}(hb:w.heap[R]?=some (.cells caseCells5 t c)):
  z! (λ_=>()) P w 0 (λ_=>true) false 4 tS [.slice (some ⟨R,0,none⟩) caseA.size caseA.size]=some (caseData,i! ⟨R,0,none⟩ (caseA.size*5)):=by
 have d:=caseTab_of_block hb;have each:∀k∈B! caseA.size,(w.cells? 0 ((⟨R,0,none⟩:Addr).add (k*5)) 5).bind (z! (λ_=>()) P w 0 (λ_=>true) false 3 tR)=some ((λk=>((rowData (caseA.getD k (0,0,0,0,0)):DataW Unit),([]:List MemPlace))) k):=by
  intro k f;have b:=x!.1 f;rw[case_cells5 d k b];exact aLo C (caseA_wf k b) 0
 have a:caseA.size<=maxLen:=by rw[caseA_size];unfold maxLen;omega
 show z! _ _ _ _ _ _ (3+1) _ _=_;rw[DataW.trod_step];unfold DataW.trodStep;simp only[C.s,C.cr];rw[if_pos ⟨E! _,y! _,a⟩,Go.Lib.mapM_some _ _ _ each];have e:=case_rows_data;simp[caseData,<-e]
theorem laid_around(C:CaseTy P g tU tI tA tR tS f0 f1 f2){l1 K:List (String×DataW Unit)}(d:Nat)
  (I:(p! P w d (l1.map (·.1))).map (·.1)=some l1) (J:(p! P w d (K.map (·.1))).map (·.1)=some K) {R:Nat} {t:TypeId} (L:g≠R)
  (kn:((p! P w d (l1.map (·.1))).bind λx=>(p! P w d (K.map (·.1))).map λy=>
   _root_.Go.nodupB ((x.2++y.2).map MemPlace.codeOf)&&(laidRowsB P w (x.2++y.2)&&(x.2++y.2).all λp=>p.block !=g&&p.block !=R))=some true)
  (n:w.heap[g]?=some (.cells #[.slice (some ⟨R,0,none⟩) caseA.size caseA.size] tS (0,0))) (m:w.heap[R]?=some (.cells caseCells5 t (0,0))):
  laidMet P (l1++("unicode.CaseRanges",caseData)::K) w:=by
 cases e1:p! P w d (l1.map (·.1)) with
 |none=>rw[e1]at I;cases I
 |some x1=>
 cases e2:p! P w d (K.map (·.1)) with
 |none=>rw[e2]at J;cases J
 |some x2=>
 rw[e1]at I;rw[e2]at J;rw[e1,e2]at kn;obtain⟨y1,U⟩:=x1;obtain⟨y2,W⟩:=x2;simp only[Option.map_some,Option.some.injEq]at I J;subst I;subst J;simp only[Option.bind_some,Option.map_some,Option.some.injEq,b!]at kn;obtain⟨O,Q,S⟩:=kn;have M:(U++W).Nodup:=nodup_of_code O;have s:∀p∈U++W,p.block≠g/\p.block≠R:=λp h=>by
  have:=c!.1 S p h;simpa using this
 have hT:=caseTab_of_block m;have H:DataW.LaidVars P w [("unicode.CaseRanges",caseData)] (i! ⟨g,0,none⟩ 1++i! ⟨R,0,none⟩ (caseA.size*5)++ []):=
  ⟨g,tS,_,_,_,[],C.name,C.glob,by simp[World.var?,C.name,n],aLn C m,rfl,rfl⟩
 have G:=LaidVars_append (H! e1) (LaidVars_append H (H! e2));have r:∀p,p∈i! ⟨g,0,none⟩ 1++i! ⟨R,0,none⟩ (caseA.size*5)++ []->(p=.cell g 0)\/∃i,i<caseA.size*5/\p=.cell R i:=by
  intro p h;rw[X!]at h;rcases v!.1 h with h|h
  ·obtain⟨i,hi,rfl⟩:=r!.1 h;obtain rfl:i=0:=by omega
   exact .inl rfl
  ·obtain⟨i,hi,rfl⟩:=r!.1 h;exact .inr ⟨i,hi,by simp⟩
 have f:∀p,p∈i! ⟨g,0,none⟩ 1++i! ⟨R,0,none⟩ (caseA.size*5)++ []->p.block=g\/p.block=R:=λp h=>by
  rcases r p h with rfl|⟨i,_,rfl⟩
  ·exact .inl rfl
  ·exact .inr rfl
 have o:(i! ⟨g,0,none⟩ 1++i! ⟨R,0,none⟩ (caseA.size*5)++ []).Nodup:=by
  rw[X!];refine t!.2 ⟨row_nodup _ _,row_nodup _ _,λa B b hb e=>?_⟩;obtain⟨i,_,rfl⟩:=r!.1 B;obtain⟨j,_,rfl⟩:=r!.1 hb;simp at e;exact L e.1
 refine⟨_,G,?_,λb off h=>?_⟩
 ·obtain⟨n1,n2,n3⟩:=t!.1 M;refine t!.2 ⟨n1,t!.2 ⟨o,n2,λa B b hb e=>?_⟩,λa B b hb e=>?_⟩
  ·subst e;obtain⟨D,E⟩:=s a (O! _ hb);rcases f a B with q|q
   ·exact D q
   ·exact E q
  ·subst e;obtain⟨D,E⟩:=s a (Q! _ B);rcases v!.1 hb with hb|hb
   ·rcases f a hb with q|q
    ·exact D q
    ·exact E q
   ·exact n3 a B a hb rfl
 ·by_cases z:T! b off∈U++W
  ·have:=c!.1 Q _ z;simp only[b!]at this;obtain⟨D,E⟩:=this;refine⟨?_,λu v l=>?_⟩
   ·split at D
    ·rename_i c t' hh;exact⟨c,t',hh⟩
    ·cases D
   ·rw[l]at E;exact Value.okWide_of_okWideB E
  ·have N:T! b off∈i! ⟨g,0,none⟩ 1++i! ⟨R,0,none⟩ (caseA.size*5)++ []:=by
    rcases v!.1 h with h|h
    ·exact absurd (Q! _ h) z
    ·rcases v!.1 h with h|h
     ·exact h
     ·exact absurd (O! _ h) z
   rcases r _ N with e|⟨i,hi,e⟩
   ·cases e;refine⟨⟨_,_,n⟩,λu v l=>?_⟩;rw[Lib.cell_of_heap n]at l;simp at l
   ·cases e;refine⟨⟨_,_,m⟩,λu v l=>?_⟩;obtain⟨Y,Z,c2,c3,c4⟩:=hT (off / 5) (by omega);have hq:off=0+off / 5*5+off % 5:=by omega
    rw[hq]at l;have X:off % 5<5:=Nat.mod_lt _ (by omega);generalize off % 5=k at l X
    match k,X with
    |0,_=>rw[e?,Y]at l;cases l
    |1,_=>rw[Z]at l;cases l
    |2,_=>rw[c2]at l;cases l
    |3,_=>rw[c3]at l;cases l
    |4,_=>rw[c4]at l;cases l
end
section
variable{G N:Nat}{M:Mp}{h:Hp}{w:World}{keep:Nat->Bool}
abbrev DV:=FuncId×List V×List V
abbrev DS:=List DV
inductive OutD where
 |nor (fr:F) (h:Hp) (ds:DS)
 |ret (fr:F) (h:Hp) (ds:DS)
 |bad
def aeA(fr:F):List Operand->Option (List V)
 | []=>some []
 |x::l=>(match x with
  | .tmp t=>(match fr.get (Pos.of t) with|some v=>(match aeA fr l with|some vs=>some (v::vs)|none=>none)|none=>none)
  | .const c=>(match const c with|some v=>(match aeA fr l with|some vs=>some (v::vs)|none=>none)|none=>none)
  | .func f=>(match aeA fr l with|some vs=>some (.func (.func f) .nil .nil::vs)|none=>none)
  | .global _=>none)
def aEq(o:Oper):Bool:=match o.op with| .defer _=>true|_=>false
def defers:Code->Bool
 | .region _ ops _=>ops.toList.any aEq
 | .seq a b=>defers a||defers b
 | .cond _ a b=>defers a||defers b
 |_=>false
theorem X7{Df:List Deferred}{fr:F}{a:Act}(at_:At keep G N Df M fr h a w):∀{l:List Operand} {vs:List V},aeA fr l=some vs->bU M vs (l.map a.eval)
 | [],vs,b=>by cases b;rfl
 |x::l,vs,b=>by
  simp only[aeA]at b;split at b
  ·rename_i t;split at b
   ·rename_i v e;split at b
    ·rename_i g d;cases b;exact⟨_,_,(at_.fr t v e).2,X7 at_ d,rfl⟩
    ·cases b
   ·cases b
  ·rename_i c;split at b
   ·rename_i v e;split at b
    ·rename_i g d;cases b;exact⟨_,_,QM e M,X7 at_ d,rfl⟩
    ·cases b
   ·cases b
  ·rename_i f;split at b
   ·rename_i g d;cases b;exact⟨_,_,⟨rfl,.func f,[],[],rfl,⟨rfl,rfl⟩,rfl,rfl,rfl⟩,X7 at_ d,rfl⟩
   ·cases b
  ·cases b
end
end Go.Vm
