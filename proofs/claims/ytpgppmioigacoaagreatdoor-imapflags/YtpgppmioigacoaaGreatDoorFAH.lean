/- Lemmas. No conditions. -/
import Derived.Test.YtpgppmioigacoaaGreatDoorFAG
import Derived.Test.YtpgppmioigacoaaGreatDoorFAF
import Derived.KernelRfl
set_option linter.all false
open Bool renaming and_eq_true→a!,eq_iff_iff→N!,not_false→Q!,not_true→S!
open Nat renaming ble_eq_true_of_le→b!,ble→c!,blt_eq→d!,beq→e!,zero_add→g!,blt→h!,lt_or_ge→k!,le_refl→l!,beq_refl→q!,eq_of_beq_eq_true→r!,mul_le_mul_right→t!,zero_le→u!,add_assoc→y!,sub_self→D!,lt_of_lt_of_le→G!,zero_ne_one→O!,one_ne_zero→P!,zero_mul→T!,succ_mul→U!,mul→V!,sub_mul→W!,mul_one→X!,add_mul→Y!
open List renaming map_congr_left→i!,length_cons→j!,getElem?_eq_getElem→n!,length_eq_zero_iff→o!,map_map→p!,getElem?_cons_succ→v!,getElem?_eq_none→w!,drop_zero→x!,getElem?_take→z!,getElem?_drop→A!,length_drop→B!,length_nil→C!,mem_of_getElem?→E!,length_append→F!,pairwise_map→H!,getElem?_map→I!,length_take→J!,drop_length→K!,nil_append→L!,length_map→M!,mem_cons→R!
noncomputable section
namespace Go.Vm
section
variable{P:Program}{el:TypeId}
def badR(_:Hp):R V:=.bad
def aTT(_:F)(_:Hp):Out:=.bad
def dR:lf=10000000000000000000:=rfl
@[congr] theorem aSz{o o':Out}(e:o=o')(k:F->Hp->Out):oC o k=oC o' k:=by rw[e]
@[congr] theorem aTu{o o':Option V}(e:o=o')(k:V->Out):gtO o k=gtO o' k:=by rw[e]
@[congr] theorem aS8{o o':R V}(e:o=o')(k:V->Hp->Out):aA o k=aA o' k:=by rw[e]
@[congr] theorem aTa{o o':A}(e:o=o')(k:Ob->(Pos->V)->Out):Aw o k=Aw o' k:=by rw[e]
@[congr] theorem aTt{o o':V}(e:o=o')(a b:Out):ifB o a b=ifB o' a b:=by rw[e]
def YU(a b:F->Hp->Out)(fr:F)(h:Hp):aB a b fr h=oC (a fr h) b:=(rfl)
def Oz(fr:F)(h:Hp)(k:F->Hp->Out):oC (.nor fr h) k=k fr h:=(rfl)
def arO(fr:F)(h:Hp)(k:F->Hp->Out):oC (.ret fr h) k=.ret fr h:=(rfl)
def auE(i:Nat)(fr:F)(h:Hp)(k:F->Hp->Out):oC (.ex i fr h) k=.ex i fr h:=(rfl)
def alA(v:V)(k:V->Out):gtO (some v) k=k v:=(rfl)
def aqD(v:V)(h:Hp)(k:V->Hp->Out):aA (.ok v h) k=k v h:=(rfl)
def asn(ob:Ob)(mk:Pos->V)(k:Ob->(Pos->V)->Out):Aw (some (ob,mk)) k=k ob mk:=(rfl)
def av2(a b:Out):ifB (.bool true) a b=a:=(rfl)
def asa(a b:Out):ifB (.bool false) a b=b:=(rfl)
def aql{p:Prop} [Decidable p](d:p)(a b:Out):ifB (.bool (decide p)) a b=a:=by rw[decide_eq_true d];rfl
def aqm{p:Prop} [Decidable p](d:¬p)(a b:Out):ifB (.bool (decide p)) a b=b:=by rw[decide_eq_false d];rfl
def alH(t:Nat)(a b:F->Hp->Out)(fr:F)(h:Hp):aT (.tmp t) a b fr h=gtO (fr.get (Pos.of t)) λv=>ifB v (a fr h) (b fr h):=(rfl)
def Dz(id:Nat)(o:Out):Out:=match o with
 | .ex i fr h=>(match e! i id with|true=>.nor fr h|false=>.ex i fr h)
 |o=>o
def aAZ(id:Nat)(b:F->Hp->Out)(fr:F)(h:Hp):bD id b fr h=Dz id (b fr h):=by unfold bD Dz;cases b fr h<;>rfl
def awF(id:Nat)(fr:F)(h:Hp):Dz id (.nor fr h)=.nor fr h:=(rfl)
def awE(id:Nat)(fr:F)(h:Hp):Dz id (.ret fr h)=.ret fr h:=(rfl)
def aqE(id i:Nat)(fr:F)(h:Hp):Dz id (.ex i fr h)=if i=id then .nor fr h else .ex i fr h:=by
 unfold Dz;split
 ·rename_i d;cases d;split
  ·rename_i hb;rw[if_pos (r! hb)]
  ·rename_i hb;rw[if_neg (Nat.ne_of_beq_eq_false hb)]
 ·rename_i hn;exact absurd rfl (hn _ _ _)
def sS(m n:Nat)(x:Option V)(fr:F):(T.set x (Pos.of m) fr).get (Pos.of n)=if n=m then x else fr.get (Pos.of n):=by
 by_cases e:n=m
 ·subst e;rw[if_pos rfl,T.oM]
 ·rw[if_neg e,T.sU _ (λh=>e (Pos.afz h))]
def alJ{m:Hp->R V}{v:V}{k:Out}{l:List Hp}:chk m v k 0 l=k:=by cases l<;>rfl
def aAX{m:Hp->R V}{v:V}{k:Out}{n:Nat}:chk m v k n []=k:=by cases n<;>rfl
def Oc(A B:F->Hp->Prop):Out->Prop
 | .nor fr h=>A fr h
 | .ret fr h=>B fr h
 |_=>False
def LS(id:Nat)(C A B:F->Hp->Prop):Out->Prop
 | .nor fr h=>C fr h
 | .ex i fr h=>i=id/\A fr h
 | .ret fr h=>B fr h
 | .bad=>False
def dX{id:Nat}{body:F->Hp->Out}(I:Nat->F->Hp->Prop){A B:F->Hp->Prop}{n:Nat}{fr:F}{h:Hp}(hn:n<lf)(j:I n fr h)
  (step:∀m fr h,I m fr h->LS id (λfr h=>∃m',m'<m/\I m' fr h) A B (body fr h)):Oc A B (Dz id (dG body lf fr h)):=by
 have key:∀l n fr h,n<l->I n fr h->Oc A B (Dz id (dG body l fr h)):=by
  intro l;induction l with
  |zero=>intro n fr h hn;omega
  |succ l q=>
   intro n fr h hn j;have d:=step n fr h j;rw[anm];cases e:body fr h with
   |bad=>rw[e]at d;exact d.elim
   |nor f g=>
    rw[e]at d;obtain⟨m',r,o⟩:=d;exact q m' f g (by omega) o
   |ret f g=>rw[e]at d;exact d
   |ex i f g=>
    rw[e]at d;obtain⟨rfl,p⟩:=d;simp only[aqE,if_true];exact p
 exact key lf n fr h hn j
def Oc.then{A B:F->Hp->Prop}{o:Out}{k:F->Hp->Out}{Q:Out->Prop}(d:Oc A B o)(e:∀fr h,A fr h->Q (k fr h))(f:∀fr h,B fr h->Q (.ret fr h)):Q (oC o k):=by
 cases o with
 |nor fr h=>exact e fr h d
 |ret fr h=>exact f fr h d
 |ex i fr h=>exact d.elim
 |bad=>exact d.elim
def aV(P:Program)(d:List ResultVar)(Q:V->Hp->Prop)(o:Out):Prop:=∃r h,bV P d o=.ok r h/\Q r h
def aV.ret{d:List ResultVar}{Q:V->Hp->Prop}{fr:F}{h:Hp}{r:V}{h':Hp}(e:bQ P d fr h (λvs=>bT vs h)=.ok r h')(f:Q r h'):aV P d Q (.ret fr h):=⟨r,h',e,f⟩
def aV.nor{d:List ResultVar}{Q:V->Hp->Prop}{fr:F}{h:Hp}{r:V}{h':Hp}(e:bQ P d fr h (λvs=>bT vs h)=.ok r h')(f:Q r h'):aV P d Q (.nor fr h):=⟨r,h',e,f⟩
def Ai(a b:Int):nO a b=decide (a=b):=by rw[Ah];rfl
def Gp(a b:Int):vC a b=decide (a<=b):=UG a b
variable{h:Hp}{k:IntKind}{a b:Int}{c:EqC}
def xG(k:IntKind):e! (kix k) (kix k)=true:=by cases k<;>rfl
def wrap64_in{n:Int}(d: -9223372036854775808<=n)(e:n<9223372036854775808):wrap64 n=n:=by rw[arK];exact wrap_in d e
def UB(d: -9223372036854775808<=a+b)(e:a+b<9223372036854775808):aH .add c (.int .i64 a) (.int .i64 b) h=.ok (.int .i64 (a+b)) h:=by
 show iM .i64 (wrap64 (a+b)) h=_;rw[wrap64_in d e,gZ]
def aaT(d: -9223372036854775808<=a - b)(e:a - b<9223372036854775808):aH .sub c (.int .i64 a) (.int .i64 b) h=.ok (.int .i64 (a - b)) h:=by
 show iM .i64 (wrap64 (a - b)) h=_;rw[wrap64_in d e,gZ]
def avy(h0:b≠0):aH .rem c (.int .i64 a) (.int .i64 b) h=.ok (.int .i64 (a.tmod b)) h:=by
 show(match nO b 0 with|true=>R.bad|false=>iM .i64 (Int.tmod a b) h)=_;rw[Ai,decide_eq_false h0,gZ]
def avH:aH .eql c (.int k a) (.int k b) h=.ok (.bool (decide (a=b))) h:=by
 show(match e! (kix k) (kix k) with|true=>fQ (nO a b) h|false=>.bad)=_;rw[xG,gm,Ai]
def avA:aH .neq c (.int k a) (.int k b) h=.ok (.bool (decide (a≠b))) h:=by
 show(match e! (kix k) (kix k) with|true=>fQ (not (nO a b)) h|false=>.bad)=_;rw[xG,gm,Ai];simp
def avD:aH .lss c (.int k a) (.int k b) h=.ok (.bool (decide (a<b))) h:=by
 show(match e! (kix k) (kix k) with|true=>fQ (not (vC b a)) h|false=>.bad)=_;rw[xG,gm,Gp,show(!decide (b<=a))=decide (a<b) from by rw[N!];simp]
def avE:aH .leq c (.int k a) (.int k b) h=.ok (.bool (decide (a<=b))) h:=by
 show(match e! (kix k) (kix k) with|true=>fQ (vC a b) h|false=>.bad)=_;rw[xG,gm,Gp]
def avF:aH .gtr c (.int k a) (.int k b) h=.ok (.bool (decide (a>b))) h:=by
 show(match e! (kix k) (kix k) with|true=>fQ (not (vC a b)) h|false=>.bad)=_;rw[xG,gm,Gp,show(!decide (a<=b))=decide (a>b) from by rw[N!];simp]
def avG:aH .geq c (.int k a) (.int k b) h=.ok (.bool (decide (a>=b))) h:=by
 show(match e! (kix k) (kix k) with|true=>fQ (vC b a) h|false=>.bad)=_;rw[xG,gm,Gp]
def aAk(q:Bool):oUn .not (.bool q) h=.ok (.bool (!q)) h:=by show fQ (not q) h=_;rw[gm]
def anb(x y:V):auh (.bool true) x y h=.ok x h:=(rfl)
def aiV(x y:V):auh (.bool false) x y h=.ok y h:=(rfl)
def ang(x:V)(l:V):bK 0 (.tuple (.cons x l)) h=.ok x h:=(rfl)
def anf(x y:V)(l:V):bK 1 (.tuple (.cons x (.cons y l))) h=.ok y h:=(rfl)
def ane(x y z:V)(l:V):bK 2 (.tuple (.cons x (.cons y (.cons z l)))) h=.ok z h:=(rfl)
def aAm:aDa (.int k a) (.int k b) h=.ok (.int k (min a b)) h:=by
 show(match vC a b with|true=>R.ok (V.int k a) h|false=>.ok (.int k b) h)=_;rw[Gp];by_cases hl:a<=b
 ·rw[decide_eq_true hl,Int.min_eq_left hl]
 ·rw[decide_eq_false hl,Int.min_eq_right (by omega)]
def aAn:avo (.int k a) (.int k b) h=.ok (.int k (max a b)) h:=by
 show(match vC b a with|true=>R.ok (V.int k a) h|false=>.ok (.int k b) h)=_;rw[Gp];by_cases hl:b<=a
 ·rw[decide_eq_true hl,Int.max_eq_left hl]
 ·rw[decide_eq_false hl,Int.max_eq_right (by omega)]
def Uy(d: -9223372036854775808<=a)(e:a<9223372036854775808):jS .i64 (.int k a) h=.ok (.int .i64 a) h:=by
 show iM .i64 (wrap64 a) h=_;rw[wrap64_in d e,gZ]
def Y5(z y:V)(j k:IntKind)(a b:Int):bU el [z,y] 2 [(0,1,.int j a),(1,1,.int k b)] h=.ok (.slice h.next 0 2 (.kn 2)) (h.new (.cells (.rw el true) [.int j a,.int k b])):=(rfl)
def aAN(d i:TypeDesc)(a b a' b':Int)(k f:IntKind)(hd:nZ d (.int k a)=true)(g:nZ i (.int f b)=true):NT [(d,0),(i,1)] [.int k a,.int f b] [.int k a',.int f b']=some (decide (a=a'/\b=b')):=by
 have l:iR (.int k a) (.int k a')=some (decide (a=a')):=by
  show(match e! (kix k) (kix k) with|true=>some (nO a a')|false=>none)=_;rw[xG,Ai]
 have m:iR (.int f b) (.int f b')=some (decide (b=b')):=by
  show(match e! (kix f) (kix f) with|true=>some (nO b b')|false=>none)=_;rw[xG,Ai]
 simp only[NT,nY,List.getElem?_cons_zero,v!,hd,g,l,m];by_cases e:a=a'<;>by_cases j:b=b'<;>simp[e,j]
def UC(a b a' b':Int):aia .eql [((.int .i64),0),((.int .i64),1)] (.agg (.cons (.int .i64 a) (.cons (.int .i64 b) .nil))) (.agg (.cons (.int .i64 a') (.cons (.int .i64 b') .nil))) h=.ok (.bool (decide (a=a'/\b=b'))) h:=by
 show(match NT _ [.int .i64 a,.int .i64 b] [.int .i64 a',.int .i64 b'] with|some q=>(match BinOp.eql with| .eql=>fQ q h| .neq=>fQ (not q) h|_=>.bad)|none=>.bad)=_;rw[aAN _ _ _ _ _ _ _ _ rfl rfl];exact gm _ _
def afE(a b a' b':Int):aia .neq [((.int .i64),0),((.int .i64),1)] (.agg (.cons (.int .i64 a) (.cons (.int .i64 b) .nil))) (.agg (.cons (.int .i64 a') (.cons (.int .i64 b') .nil))) h=.ok (.bool (decide ¬(a=a'/\b=b'))) h:=by
 show(match NT _ [.int .i64 a,.int .i64 b] [.int .i64 a',.int .i64 b'] with|some q=>(match BinOp.neq with| .eql=>fQ q h| .neq=>fQ (not q) h|_=>.bad)|none=>.bad)=_;rw[aAN _ _ _ _ _ _ _ _ rfl rfl];refine(gm _ _).trans ?_;congr 2;by_cases e:a=a'/\b=b'<;>simp[e]
def acK(i:Pos)(o off:Nat):aC off (.ptr i o) h=.ok (.ptr i (o+off)) h:=by show fK (o+off) (λq=>R.ok (V.ptr i q) h)=_;rw[dM]
def aEP{i j:Pos}(h:i.nat≠j.nat):i≠j:=λe=>h (by rw[e])
def aC4{i j:Pos}(h:i≠j):i.nat≠j.nat:=λe=>h (Pos.yR e)
def kJ(h:Hp)(i:Pos)(o:Option Ob):(h.put i o).get i=o:=h.dU i o
def Us(h:Hp){i j:Pos}(hn:j.nat≠i.nat)(o:Option Ob):(h.put i o).get j=h.get j:=h.dA (aEP hn) o
def dY(h:Hp)(o:Ob):(h.new o).get h.next=some o:=h.qM o
def new_ne(h:Hp){j:Pos}(hn:j.nat≠h.next.nat)(o:Ob):(h.new o).get j=h.get j:=h.jD (aEP hn) o
def jQ(h:Hp)(i:Pos)(o:Option Ob):(h.put i o).next=h.next:=(rfl)
def aHY(h:Hp)(o:Ob):(h.new o).next=h.next.succ:=(rfl)
def bJ(h:Hp)(o:Ob):(h.new o).next.nat=h.next.nat+1:=Pos.fD _
def anJ(h:Hp):aK 0 h=h:=(rfl)
def sZ(n:Nat)(h:Hp):(aK n h).next.nat=h.next.nat+n:=alK n _
structure Fr (b:Nat) (h h':Hp):Prop where
 next:h.next.nat<=h'.next.nat
 get:∀j,j.nat<b->h'.get j=h.get j
structure Sl (b:Nat) (h:Hp) (sz:Nat) (v:V) (n:Nat) (cs:List V):Prop where
 len:cs.length=n*sz
 is:(n=0/\(v=.aP\/v=.emp))\/∃i o c wr all,v=.slice i o n c/\i.nat<b/\(h.get i).bind Ob.row=some (wr,all)/\∀k,k<n*sz->all[o+k]?=cs[k]?
variable{b' n sz bt:Nat}{h':Hp}{v x:V}{cs:List V}
def Sl.le{b:Nat}(s:Sl b h sz v n cs)(hb:b<=b'):Sl b' h sz v n cs:=⟨s.len,s.is.imp id λ⟨i,o,c,wr,all,e,hi,r⟩=>⟨i,o,c,wr,all,e,by omega,r⟩⟩
def dW{i:Pos}{wr:Wr}{all:List V}(d:(h.get i).bind Ob.row=some (wr,all))(f:Wr->List V->R V):dV h i f=f wr all:=by
 unfold dV;cases e:h.get i with
 |none=>rw[e]at d;cases d
 |some o=>
  rw[e]at d;cases o<;>cases d<;>rfl
def anc{i:Pos}{wr:Wr}{all:List V}{q:Nat}{x:V}(d:(h.get i).bind Ob.row=some (wr,all))(e:all[q]?=some x):aF (.ptr i q) h=.ok x h:=by
 show dV h i _=_;rw[dW d,nY,e]
def Sl.length{b:Nat}(s:Sl b h sz v n cs):aZ 2 v h'=.ok (.int .i64 n) h':=by
 rcases s.is with⟨rfl,rfl|rfl⟩|⟨i,o,c,wr,all,rfl,_⟩<;>rfl
def oD{i:Pos}{o m:Nat}{c:Cap}{j:IntKind}(d:m<n):aX sz (.slice i o n c) (.int j (m:Int)) h=.ok (.ptr i (o+m*sz)) h:=by
 show(match h! m n with|true=>fK (o+m*sz) λq=>R.ok (V.ptr i q) h|false=>.bad)=_;have:h! m n=true:=by simpa[d!]using d
 rw[this,dM]
def Sl.at{b:Nat}(s:Sl b h sz v n cs){m:Nat}(e:m<n):∃i q,(∀h',aX sz v (.int .i64 (m:Int)) h'=.ok (.ptr i q) h')/\i.nat<b/\∀h',h'.get i=h.get i->∀f x,f<sz->cs[m*sz+f]?=some x->aF (.ptr i (q+f)) h'=.ok x h':=by
 rcases s.is with⟨rfl,_⟩|⟨i,o,c,wr,all,rfl,hi,l,g⟩
 ·omega
 ·refine⟨i,o+m*sz,λh'=>oD e,hi,λh' j f x t p=>?_⟩;refine anc (by rw[j];exact l) ?_;have d:m*sz+f<n*sz:=by
   have r:m*sz+sz<=n*sz:=by rw[<-U!];exact t! sz e
   omega
  rw[<-p,<-g _ d,y!]
def Sl.at1{b:Nat}(s:Sl b h 1 v n cs){m:Nat}(l:m<n):∃i q x,cs[m]?=some x/\(∀h',aX 1 v (.int .i64 (m:Int)) h'=.ok (.ptr i q) h')/\i.nat<b/\∀h',h'.get i=h.get i->aF (.ptr i q) h'=.ok x h':=by
 obtain⟨i,q,e,f,g⟩:=s.at l;have hl:=s.len;have d:cs[m]?=some cs[m]:=n! (by omega);exact⟨i,q,_,d,e,f,λh' j=>g h' j 0 _ (by omega) (by simp only[X!,Nat.add_zero];exact d)⟩
def uO{all cs:List V}{q m:Nat}(l:∀f,f<m->all[q+f]?=cs[f]?)(hl:cs.length=m):gy m (fB q all)=some cs:=by
 have j:∀f,f<m->(all.drop q)[f]?=cs[f]?:=λf d=>by rw[A!];exact l f d
 have g:m<=(all.drop q).length:=by
  rcases k! (all.drop q).length m with i|e
  ·have:=j _ i;rw[w! (l! _),n! (by omega)]at this;cases this
  ·exact e
 rw[jU,aaD g];congr 1;apply List.ext_getElem?;intro f;rw[z!];split
 ·rename_i d;exact j f d
 ·rename_i d;rw[w! (by omega)]
def Sl.atN{b:Nat}(s:Sl b h sz v n cs){m:Nat}(l:m<n):∃i q,(∀h',aX sz v (.int .i64 (m:Int)) h'=.ok (.ptr i q) h')/\i.nat<b/\
  (∀h',h'.get i=h.get i->∀f x,f<sz->cs[m*sz+f]?=some x->aF (.ptr i (q+f)) h'=.ok x h')/\
  ∀h',h'.get i=h.get i->bH sz (.ptr i q) h'=.ok (.agg (V.ofList ((cs.drop (m*sz)).take sz))) h':=by
 rcases s.is with⟨rfl,_⟩|⟨i,o,c,wr,all,rfl,hi,j,e⟩
 ·omega
 ·have p:m*sz+sz<=n*sz:=by rw[<-U!];exact t! sz l
  refine⟨i,o+m*sz,λh'=>oD l,hi,λh' d f x g r=>?_,λh' d=>?_⟩
  ·refine anc (by rw[d];exact j) ?_;rw[<-r,<-e _ (by omega),y!]
  ·show dV h' i _=_;rw[dW (by rw[d];exact j)];have:gy sz (fB (o+m*sz) all)=some ((cs.drop (m*sz)).take sz):=uO (λf g=>by
    rw[z!,if_pos g,A!,<-e _ (by omega),y!]) (by rw[J!,B!,s.len];omega)
   rw[this]
structure Ow (b:Nat) (h:Hp) (el:TypeId) (sz:Nat) (v:V) (n:Nat) (cs:List V):Prop where
 len:cs.length=n*sz
 is:(n=0/\v=.aP)\/∃i,v=.slice i 0 n (.un sz)/\b<=i.nat/\i.nat<h.next.nat/\∃f,h.get i=some (.cells (.rw el f) cs)
def Ow.nil(b:Nat)(h:Hp)(el:TypeId)(sz:Nat):Ow b h el sz .aP 0 []:=⟨by simp,.inl ⟨rfl,rfl⟩⟩
def Ow.sl{b:Nat}(s:Ow b h el sz v n cs):Sl h.next.nat h sz v n cs:=⟨s.len,by
 rcases s.is with⟨rfl,rfl⟩|⟨i,rfl,_,hi,f1,d⟩
 ·exact .inl ⟨rfl,.inl rfl⟩
 ·exact .inr ⟨i,0,_,.rw el f1,cs,rfl,hi,by rw[d];rfl,λk _=>by rw[g!]⟩⟩
def Ow.keep{b:Nat}(s:Ow b h el sz v n cs)(hn:h.next.nat<=h'.next.nat)(d:∀j,b<=j.nat->j.nat<h.next.nat->h'.get j=h.get j):Ow b h' el sz v n cs:=⟨s.len,by
 rcases s.is with⟨rfl,rfl⟩|⟨i,rfl,hb,hi,f1,e⟩
 ·exact .inl ⟨rfl,rfl⟩
 ·exact .inr ⟨i,rfl,hb,by omega,f1,by rw[d i hb hi];exact e⟩⟩
def afc(l:List V):gy l.length l=some l:=by rw[aaD (l! _)];simp
def bI:V->Option Pos
 | .slice i _ _ _=>some i
 |_=>none
def Sep(v u:V):Prop:=∀i,bI v=some i->bI u≠some i
def Sep.symm{u v:V}(h:Sep v u):Sep u v:=λi a b=>h i b a
def yF(z:V)(k:IntKind)(a:Int):bU el [z] 1 [(0,1,.int k a)] h=.ok (.slice h.next 0 1 (.kn 1)) (h.new (.cells (.rw el true) [.int k a])):=(rfl)
def avu(z y:V)(j k:IntKind)(a b:Int):bW [z,y] [(0,1,.int j a),(1,1,.int k b)] h=.ok (.agg (.cons (.int j a) (.cons (.int k b) .nil))) h:=(rfl)
def acL(z y u w:V):bU el [z,y] 1 [(0,2,.agg (.cons u (.cons w .nil)))] h=.ok (.slice h.next 0 1 (.kn 1)) (h.new (.cells (.rw el true) [u,w])):=(rfl)
def Sl.src{b m:Nat}{new:List V}(t:Sl b h sz x m new)(f:Nat->List V->R V):Ae sz x h f=f m new:=by
 rcases t.is with⟨rfl,g⟩|⟨i,o,c,wr,all,rfl,hi,e,d⟩
 ·have:new= []:=o!.1 (by rw[t.len];simp);subst this;rcases g with rfl|rfl<;>rfl
 ·show dV h i _=_;rw[dW e,uO d t.len]
def lM{n:Nat}(d:n*bt<=140737488355328)(C:List V)(g f:Hp):kK el sz bt n C g f=.ok (.slice g.next 0 n (.un sz)) (f.new (.cells (.rw el false) C)):=by
 unfold kK;rw[show c! (V! n bt) 140737488355328=true from b! d]
def Jh{c m:Nat}{new cs0:List V}{p:Pos}{wr:Wr}(t:Sl c h sz x m new)(g:0<m)(e:(h.get p).bind Ob.row=some (wr,cs0))(f:m*bt<=140737488355328):
  bZ el sz bt (.slice p 0 0 (.kn 0)) x h=.ok (.slice h.next 0 m (.un sz)) (h.new (.cells (.rw el false) new)):=by
 unfold bZ;rw[t.src];cases m with
 |zero=>omega
 |succ m=>
  simp only[];rw[dW e];simp only[dM,g!,T!];have h0:c! (m+1) 0=false:=rfl;have d:gy 0 (fB 0 cs0)=some []:=by rw[aaD (u! _)];rfl
  rw[h0,d];simp only[L!,lM f]
def MS{m:Hp->R V}{v:V}{k:Out}{g g':Hp}(d:m g=.ok v g')(e:eqV v v=true):chk m v k 1 [g]=k:=by
 show(match m g with| .ok f _=>(match eqV v f with|true=>chk m v k 0 []|false=>.bad)| .bad=>.bad)=_;rw[d];simp only[e];exact alJ
def aLg(k:IntKind)(a:Int):eqV (.int k a) (.int k a)=true:=by
 show(match e! (kix k) (kix k) with|true=>nO a a|false=>false)=true;rw[xG,Ai];simp
def acP(z:V)(k:IntKind)(a:Int):eH el [z] 1 [(0,1,.int k a)]=some (.cells (.rw el true) [.int k a],λp=>.slice p 0 1 (.kn 1)):=(rfl)
def Y4(z y f e u w d w':V):bU el [z,y,f,e] 2 [(0,2,.agg (.cons u (.cons w .nil))),(2,2,.agg (.cons d (.cons w' .nil)))] h=.ok (.slice h.next 0 2 (.kn 2)) (h.new (.cells (.rw el true) [u,w,d,w'])):=(rfl)
structure MapI (es:List (V×V)) (f:Int->Option V):Prop where
 keys:∀p∈es,∃a,p.1=.int .i64 a
 find:∀a,xK (.int .i64 a) es=some (f a)
end
section
variable{h h':Hp}{sz n bt:Nat}{v x:V}{cs:List V}{c:EqC}{el:TypeId}
def afl(a b:List Nat):jC a b=decide (a=b):=by
 induction a generalizing b with
 |nil=>cases b<;>simp[jC]
 |cons x a e=>
  cases b with
  |nil=>simp[jC]
  |cons y b=>
   simp only[jC];by_cases d:x=y
   ·subst d;rw[q!,e];simp
   ·have:e! x y=false:=by cases hb:e! x y;rfl;exact absurd (r! hb) d
    rw[this];simp[d]
def lW(a b:List Nat):aH .eql c (.str a) (.str b) h=.ok (.bool (decide (a=b))) h:=by
 show fQ (jC a b) h=_;rw[gm,afl]
def UA(a b:List Nat):aH .neq c (.str a) (.str b) h=.ok (.bool (decide (a≠b))) h:=by
 show fQ (not (jC a b)) h=_;rw[gm,afl];simp
def dw{a b:List Nat}(hl:a.length+b.length<4611686018427387904):aH .add c (.str a) (.str b) h=.ok (.str (a++b)) h:=by
 show(match h! (a.length+b.length) 4611686018427387904 with|true=>R.ok (V.str (a++b)) h|false=>.bad)=_;rw[show h! (a.length+b.length) 4611686018427387904=true by rw[d!];exact hl]
def ar0(s:List Nat):aZ 1 (.str s) h=.ok (.int .i64 (s.length:Int)) h:=by
 show R.ok (V.int .i64 (.ofNat (aIa s))) h=_;rw[aAD];rfl
def Tf{s:List Nat}{m a:Nat}{k:IntKind}(d:s[m]?=some a):jY (.str s) (.int k (m:Int)) h=.ok (.int .u8 (a:Int)) h:=by
 show(match aHX m s with|some b=>R.ok (V.int .u8 (.ofNat b)) h|none=>.bad)=_;rw[aAu,d];rfl
def afC{s:List Nat}{a:Nat}{k:IntKind}(b:s[0]?=some a):jY (.str s) (.int k 0) h=.ok (.int .u8 (a:Int)) h:=Tf (m:=0) b
def bys(s:List Nat):List V:=s.map λb:Nat=>V.int .u8 (b:Int)
def BU(s:List Nat):(bys s).length=s.length:=by simp[bys]
def abl(s t:List Nat):bys (s++t)=bys s++bys t:=by simp[bys]
def azY(s:List Nat):u8s s=bys s:=by simp[u8s,bys]
def aaW:∀{s:List Nat},(∀b∈s,b<256)->sO (bys s)=some s
 | [],_=>rfl
 |b::s,a=>by
  show(match h! b 256,sO (bys s) with|true,some r=>some (b::r)|_,_=>none)=_;rw[show h! b 256=true by rw[d!];exact a b (by simp),aaW λb hb=>a b (by simp[hb])]
def avn{s:List Nat}(hl:s.length<4611686018427387904):Gm (.str s) h=.ok (.slice h.next 0 s.length (.un 1)) (h.new (.bytes (bys s))):=by
 show(match h! s.length 4611686018427387904 with|true=>R.ok (V.slice h.next 0 s.length (.un 1)) (h.new (.bytes (u8s s)))|false=>.bad)=_;rw[show h! s.length 4611686018427387904=true by rw[d!];exact hl,azY]
structure Ch (S:Pos->Prop) (h h':Hp):Prop where
 next:h.next.nat<=h'.next.nat
 get:∀j:Pos,j.nat<h.next.nat->¬S j->h'.get j=h.get j
variable{S S':Pos->Prop}{g:Hp}
def Ch.refl(S:Pos->Prop)(h:Hp):Ch S h h:=⟨l! _,λ_ _ _=>rfl⟩
def Ch.trans(x:Ch S h g)(y:Ch S' g h')(a:∀j:Pos,j.nat<h.next.nat->S' j->S j):Ch S h h':=
 ⟨Nat.le_trans x.next y.next,λj hj hn=>(y.get j (G! hj x.next) λq=>hn (a j hj q)).trans (x.get j hj hn)⟩
def Ch.mono(x:Ch S h h')(a:∀j:Pos,j.nat<h.next.nat->S j->S' j):Ch S' h h':=⟨x.next,λj hj hn=>x.get j hj λq=>hn (a j hj q)⟩
def Ch.new(S:Pos->Prop)(h:Hp)(o:Ob):Ch S h (h.new o):=⟨by rw[bJ];omega,λj hj _=>new_ne h (by omega) o⟩
def Ch.put(h:Hp){i:Pos}(o:Option Ob)(hi:S i):Ch S h (h.put i o):=⟨l! _,λj hj hn=>Us h (λe=>hn (by rw[show j=i from Pos.yR e];exact hi)) o⟩
def Ch.aK(S:Pos->Prop)(n:Nat)(h:Hp):Ch S h (aK n h):=⟨by rw[sZ];omega,λ_ _ _=>rfl⟩
def Sl.eY{b:Nat}(s:Sl b h sz v n cs){i:Pos}(hi:bI v=some i):i.nat<b:=by
 rcases s.is with⟨_,rfl|rfl⟩|⟨i',o,cp,wr,all,rfl,a,_⟩
 ·cases hi
 ·cases hi
 ·cases hi;exact a
def Sl.ch{b:Nat}(s:Sl b h sz v n cs)(x:Ch S h h')(hb:b<=h.next.nat)(e:∀i,bI v=some i->¬S i):Sl b h' sz v n cs:=⟨s.len,by
 rcases s.is with h0|⟨i,o,cp,wr,all,rfl,hi,d,a⟩
 ·exact .inl h0
 ·exact .inr ⟨i,o,cp,wr,all,rfl,hi,by rw[x.get i (by omega) (e i rfl)];exact d,a⟩⟩
def Ow.eY{b:Nat}(s:Ow b h el sz v n cs){i:Pos}(hi:bI v=some i):b<=i.nat/\i.nat<h.next.nat:=by
 rcases s.is with⟨_,rfl⟩|⟨i',rfl,hb,a,_,_⟩
 ·cases hi
 ·cases hi;exact⟨hb,a⟩
def Ow.ch{b:Nat}(s:Ow b h el sz v n cs)(x:Ch S h h')(d:∀i,bI v=some i->¬S i):Ow b h' el sz v n cs:=⟨s.len,by
 rcases s.is with h0|⟨i,rfl,hb,hi,f1,a⟩
 ·exact .inl h0
 ·exact .inr ⟨i,rfl,hb,G! hi x.next,f1,by rw[x.get i hi (d i rfl)];exact a⟩⟩
def Ow.cell{b:Nat}(s:Ow b h el sz v n cs):v.cells= [v]/\ig v=true:=by
 rcases s.is with⟨_,rfl⟩|⟨i,rfl,_⟩<;>exact⟨rfl,rfl⟩
def Sl.cell{b:Nat}(s:Sl b h sz v n cs):v.cells= [v]/\ig v=true:=by
 rcases s.is with⟨_,rfl|rfl⟩|⟨i,o,cp,wr,all,rfl,_⟩<;>exact⟨rfl,rfl⟩
def aQW{b m:Nat}{new:List V}(s:Ow 0 h el sz v n cs)(t:Sl b h sz x m new)(o:0<m)(a:(n+m)*bt<=140737488355328):
  ∃d h',bZ el sz bt v x h=.ok d h'/\d=.slice h.next 0 (n+m) (.un sz)/\h'.next=h.next.succ/\Ow 0 h' el sz d (n+m) (cs++new)/\Ch (λj=>bI v=some j) h h':=by
 have hl:(cs++new).length=(n+m)*sz:=by rw[F!,s.len,t.len,Y!]
 unfold bZ;rw[t.src];cases m with
 |zero=>omega
 |succ m=>
  simp only[];rcases s.is with⟨rfl,rfl⟩|⟨i,rfl,-,hi,f1,l⟩
  ·have k:cs= []:=o!.1 (by rw[s.len];simp);subst k;simp only[];rw[lM (by rw[g!]at a;exact a)];refine⟨_,_,rfl,by rw[g!],rfl,⟨hl,.inr ⟨h.next,by rw[g!],u! _,by rw[bJ];omega,false,dY _ _⟩⟩,Ch.new _ _ _⟩
  ·simp only[];rw[dW (wr:=.rw el f1) (all:=cs) (by rw[l];rfl)];have e:gy (n*sz) (fB 0 cs)=some cs:=by rw[jU,x!,<-s.len,afc]
   have f:fB (n*sz) (fB 0 cs)= []:=by rw[jU,jU,x!,<-s.len,K!]
   simp only[dM,e,f,q!,lM a];refine⟨_,_,rfl,rfl,rfl,⟨hl,.inr ⟨h.next,rfl,u! _,by rw[bJ,jQ];omega,false,dY (h.put i none) _⟩⟩,(Ch.put (S:=λj=>bI (.slice i 0 n (.un sz))=some j) h none rfl).trans (Ch.new (λ_=>False) _ _) λ_ _ q=>q.elim⟩
def aA1{new:List V}(s:Ow 0 h el sz v n cs)(a:new.length=sz)(l:(n+1)*bt<=140737488355328):
  ∃b h',bZ el sz bt v (.slice h.next 0 1 (.kn 1)) (h.new (.cells (.rw el true) new))=.ok b h'/\b=.slice h.next.succ 0 (n+1) (.un sz)/\Ow 0 h' el sz b (n+1) (cs++new)/\Ch (λj=>bI v=some j) h h'/\h'.next.nat=h.next.nat+2:=by
 have d:=Ch.new (λj=>bI v=some j) h (.cells (.rw el true) new);have m:Ow 0 (h.new (.cells (.rw el true) new)) el sz v n cs:=s.ch (Ch.new (λ_=>False) h _) λ_ _ q=>q;have p:Sl (h.next.nat+1) (h.new (.cells (.rw el true) new)) sz (.slice h.next 0 1 (.kn 1)) 1 new:=⟨by rw[a];simp,.inr ⟨h.next,0,_,.rw el true,new,rfl,by omega,by rw[dY];rfl,λk _=>by rw[g!]⟩⟩
 obtain⟨b,h',e,e2,i,o,f⟩:=aQW (bt:=bt) m p (by omega) l;exact⟨b,h',e,e2,o,d.trans f λ_ _ q=>q,by rw[i,aHY,Pos.fD,Pos.fD]⟩
def acJ(i:Pos)(q:Nat):aO (.ptr i q) h=.ok (.ptr i q) h:=(rfl)
def au4(h:Hp)(o:Ob):Hp.put (aK 1 h) h.next (some o)=h.new o:=(rfl)
def ED{i:Pos}{wr:Wr}{l:List V}(a:h.get i=some (.cells wr l))(q:Nat):aF (.ptr i q) h=(match l[q]? with|some v=>R.ok v h|none=>.bad):=by
 show dV h i (λ_ cs=>match MH q cs with|some v=>R.ok v h|none=>.bad)=_;rw[dW (wr:=wr) (all:=l) (by rw[a];rfl),nY]
def Ut{y:V}:∀{q:Nat} {l:List V},q<l.length->jo q [y] l=some (l.set q y)
 |0,[],h=>absurd h (by simp)
 |0,a::t,_=>rfl
 |q+1,[],h=>absurd h (by simp)
 |q+1,a::t,h=>by
  show Option.casesOn (motive:=λ_=>Option (List V)) (jo q [y] t) none (λr=>some (a::r))=_;rw[Ut (q:=q) (l:=t) (by simpa using h)];rfl
def xB{i:Pos}{t:TypeId}{f:Bool}{l:List V}(b:h.get i=some (.cells (.rw t f) l)){sz q:Nat}{y:V}(hn:ig y=true)(hl:e! y.cells.length sz=true):
  aS sz (.ptr i q) y h=(match jo q y.cells l with|some a=>.ok V.undef (h.put i (some (.cells (.rw t f) a)))|none=>.bad):=by
 unfold aS;show dV h i _=_;rw[dW (wr:=.rw t f) (all:=l) (by rw[b];rfl),hn,hl];rfl
def afm{i:Pos}{t:TypeId}{f:Bool}{l:List V}(b:h.get i=some (.cells (.rw t f) l)){q:Nat}{y:V}(a:y.cells= [y]/\ig y=true)(d:q<l.length):aS 1 (.ptr i q) y h=.ok V.undef (h.put i (some (.cells (.rw t f) (l.set q y)))):=by
 rw[xB b a.2 (by rw[a.1];rfl),a.1];rw[Ut d]
end
section
variable{h h':Hp}{sz n b:Nat}{v:V}{cs:List V}
def zn(sz:Nat)(v:V):Prop:=∀i o n c,v=.slice i o n c->(match c with| .kn k=>n<=k| .un u=>u=sz)
def aH1{sz o l m k:Nat}(hl:l<=k)(a:k<=m):moved sz o l m=o+l*sz\/(moved sz o l m=o/\k=l):=by
 unfold moved;cases hb:e! m l with
 |true=>exact .inr ⟨rfl,by have:=r! hb;omega⟩
 |false=>exact .inl rfl
def Sl.cut(s:Sl b h sz v n cs)(I:zn sz v)(J:0<sz){lo hi:Nat}(z:lo<=hi)(H:hi<=n)(E:v≠ .aP/\v≠ .emp):
  ∃w,(∀h',amW sz v (some (.int .i64 (lo:Int))) (some (.int .i64 (hi:Int))) none h'=.ok w h')/\Sl b h sz w (hi - lo) ((cs.drop (lo*sz)).take ((hi - lo)*sz))/\zn sz w/\∀i,bI w=some i->bI v=some i:=by
 have hl:=s.len;have a:((cs.drop (lo*sz)).take ((hi - lo)*sz)).length=(hi - lo)*sz:=by
  rw[J!,B!,hl,<-W!];exact Nat.min_eq_left (t! _ (by omega))
 have d:∀(all:List V) (o:Nat),(∀k,k<n*sz->all[o+k]?=cs[k]?)->∀k,k<(hi - lo)*sz->all[o+lo*sz+k]?=((cs.drop (lo*sz)).take ((hi - lo)*sz))[k]?:=λall o r k G=>by
  rw[z!,if_pos G,A!,y!];apply r;have:lo*sz+(hi - lo)*sz<=n*sz:=by rw[<-Y!];exact t! _ (by omega)
  omega
 rcases s.is with⟨_,h0|h0⟩|⟨i,o,c,wr,all,rfl,g,B,r⟩
 ·exact absurd h0 E.1
 ·exact absurd h0 E.2
 ·have f:=I i o n c rfl;cases c with
  |kn k=>
   have G:n<=k:=f;have e1:c! k k=true:=b! (l! _);have e2:c! hi k=true:=b! (by omega);have t:c! lo hi=true:=b! z;refine⟨.slice i (moved sz o lo k) (hi - lo) (.kn (k - lo)),λh'=>?_,⟨a,?_⟩,λi' o' D x e=>by cases e;show hi - lo<=k - lo;omega,λj hj=>hj⟩
   ·show(match c! k k,c! hi k,c! lo hi with
     |true,true,true=>fK (moved sz o lo k) λq=>fK (hi - lo) λn=>R.ok (V.slice i q n (.kn (k - lo))) h'
     |_,_,_=>.bad)=_
    rw[e1,e2,t];simp only[dM]
   ·refine .inr ⟨i,_,_,wr,all,rfl,g,B,λq p=>?_⟩;rcases aH1 (sz:=sz) (o:=o) (m:=k) z (by omega) with e|⟨_,e⟩
    ·rw[e];exact d all o r q p
    ·rw[e,D!,T!]at p;omega
  |un u=>
   have K:u=sz:=f;subst K;have e2:c! hi n=true:=b! H;have t:c! lo hi=true:=b! z;cases lo with
   |zero=>
    refine⟨.slice i o hi (.un u),λh'=>?_,⟨a,.inr ⟨i,o,.un u,wr,all,rfl,g,B,λq p=>?_⟩⟩,λi' o' D x e=>(by cases e;rfl),λj hj=>hj⟩
    ·show(match c! hi n,c! 0 hi,e! u u with
      |true,true,true=>R.ok (V.slice i o hi (.un u)) h'
      |_,_,_=>R.bad)=_
     rw[e2,t,q!]
    ·have:=d all o r q p;rw[show o+0*u+q=o+q by omega]at this;exact this
   |succ l=>
    have es:∀h',amW u (.slice i o n (.un u)) (some (.int .i64 ((l+1:Nat):Int))) (some (.int .i64 (hi:Int))) none h'=(match h! (l+1) n with
      |true=>fK (o+(l+1)*u) λq=>fK (hi - (l+1)) λn=>R.ok (V.slice i q n (.un u)) h'
      |false=>.ok .emp h'):=λh'=>by
     show(match c! hi n,c! (l+1) hi,e! u u with
      |true,true,true=>(match h! (l+1) n with
       |true=>fK (o+(l+1)*u) λq=>fK (hi - (l+1)) λn=>R.ok (V.slice i q n (.un u)) h'
       |false=>.ok .emp h')
      |_,_,_=>R.bad)=_
     rw[e2,t,q!]
    by_cases C:l+1<n
    ·have y:h! (l+1) n=true:=by rw[d!];exact C
     refine⟨.slice i (o+(l+1)*u) (hi - (l+1)) (.un u),λh'=>by rw[es];simp only[y,dM],⟨a,.inr ⟨i,_,_,wr,all,rfl,g,B,λq p=>d all o r q p⟩⟩,λi' o' D x e=>(by cases e;rfl),λj hj=>hj⟩
    ·have y:h! (l+1) n=false:=by
      cases hb:h! (l+1) n with
      |false=>rfl
      |true=>rw[d!]at hb;omega
     have L:hi - (l+1)=0:=by omega
     exact⟨.emp,λh'=>by rw[es];simp only[y],⟨a,.inl ⟨L,.inr rfl⟩⟩,λi' o' D x e=>(by cases e),λj hj=>(by cases hj)⟩
def Sl.from(s:Sl b h sz v n cs)(k:zn sz v)(j:0<sz){lo:Nat}(p:lo<=n):
  ∃d,(∀h',fM sz v (some (.int .i64 (lo:Int))) none none h'=.ok d h')/\Sl b h sz d (n - lo) (cs.drop (lo*sz))/\zn sz d/\∀i,bI d=some i->bI v=some i:=by
 by_cases a:v=.aP\/v=.emp
 ·have hn:n=0:=by
   rcases s.is with⟨h0,_⟩|⟨i,o,c,wr,all,e,_⟩
   ·exact h0
   ·rcases a with a|a<;>rw[a]at e<;>cases e
  subst hn;have g:lo=0:=by omega
  subst g;have f:cs= []:=o!.1 (by rw[s.len];simp);subst f;exact⟨v,λh'=>by rcases a with rfl|rfl<;>rfl,by simpa using s,k,λ_ hi=>hi⟩
 ·obtain⟨d,e1,e2,l,m⟩:=s.cut k j (hi:=n) p (l! _) ⟨λq=>a (.inl q),λq=>a (.inr q)⟩;refine⟨d,λh'=>?_,?_,l,m⟩
  ·rw[<-e1 h'];rcases s.is with⟨_,h0⟩|⟨i,o,c,wr,all,rfl,_⟩
   ·exact absurd h0 a
   ·rfl
  ·have hl:(cs.drop (lo*sz)).length<=(n - lo)*sz:=by rw[B!,s.len,<-W!];exact l! _
   rw[List.take_of_length_le hl]at e2;exact e2
end
section
variable{h:Hp}{el:TypeId}{bt:Nat}{c:EqC}
def wrap_u8{n:Nat}(hn:n<256):IntKind.u8.wrap (n:Int)=(n:Int):=by
 simp[IntKind.wrap,IntKind.signed,IntKind.bits];omega
def aEV{a b:Nat}(hn:a+b<256):aH .add c (.int .u8 (a:Int)) (.int .u8 (b:Int)) h=.ok (.int .u8 ((a+b:Nat):Int)) h:=by
 show iM .u8 (xq .u8 ((a:Int)+(b:Int))) h=_;rw[Ac,show(a:Int)+(b:Int)=((a+b:Nat):Int) by omega,wrap_u8 hn,gZ]
def aQX{p:Pos}{n k:Nat}{t:TypeId}{f:Bool}{pre post:List V}{x y:V}(d:h.get p=some (.cells (.rw t f) (pre++x::post)))(e:pre.length=k)(hn:k<n)(g:p.nat<h.next.nat):
  bZ el 1 bt (.slice p 0 k (.kn n)) (.slice h.next 0 1 (.kn 1)) (h.new (.cells (.rw el true) [y]))=.ok (.slice p 0 (k+1) (.kn n)) ((h.new (.cells (.rw el true) [y])).put p (some (.cells (.rw t f) (pre++y::post)))):=by
 have b:(h.new (.cells (.rw el true) [y])).get p=some (.cells (.rw t f) (pre++x::post)):=by rw[new_ne h (by omega)];exact d
 unfold bZ;have a:∀f:Nat->List V->R V,Ae 1 (.slice h.next 0 1 (.kn 1)) (h.new (.cells (.rw el true) [y])) f=f 1 [y]:=λf=>by
  show dV _ _ _=_;rw[dW (wr:=.rw el true) (all:= [y]) (by rw[dY];rfl)];rfl
 rw[a];simp only[];rw[dW (wr:=.rw t f) (all:=pre++x::post) (by rw[b];rfl)];simp only[dM,g!,X!];rw[b! (show k+1<=n by omega),Ut (by simp;omega)];simp only[];rw[show(pre++x::post).set k y=pre++y::post by rw[<-e];simp]
def aEB(n:Nat)(z:V):(times n [z]).length=n:=by
 induction n with
 |zero=>rfl
 |succ n a=>
  show(z::times n [z]).length=n+1;simp[a]
def avr{z:V}{n:Nat}(hn:n*bt<=140737488355328):xE el bt [z] (.int .i64 0) (.int .i64 (n:Int)) h=.ok (.slice h.next 0 0 (.kn n)) (h.new (.cells (.rw el true) (times n [z]))):=by
 show(match c! 0 n,c! (V! n bt) 140737488355328 with
  |true,true=>R.ok (V.slice h.next 0 0 (.kn n)) (h.new (.cells (.rw el true) (times n [z])))
  |_,_=>.bad)=_
 rw[b! (u! n),show c! (V! n bt) 140737488355328=true from b! hn]
def QC(c:Nat):Nat:=if 65<=c/\c<=90 then c+32 else c
def foldM(s:List Nat):List Nat:=s.map QC
def aKV{c:Nat}(h:c<256):QC c<256:=by unfold QC;split<;>omega
def aIm{s:List Nat}(h:∀c∈s,c<256):∀c∈foldM s,c<256:=λc a=>by
 obtain⟨d,hd,rfl⟩:=List.mem_map.1 a;exact aKV (h d hd)
def ay4{p:Pos}{n:Nat}{t:TypeId}{f:Bool}{s:List Nat}{rest:List V}(a:h.get p=some (.cells (.rw t f) (bys s++rest)))(e:∀b∈s,b<256):Af (.slice p 0 s.length (.kn n)) h=.ok (.str s) h:=by
 show dV h p (λ_ cs=>(match gy s.length (fB 0 cs) with
  |some l=>(match sO l with|some s=>R.ok (V.str s) h|none=>.bad)
  |none=>.bad))=_
 rw[dW (wr:=.rw t f) (all:=bys s++rest) (by rw[a];rfl),uO (cs:=bys s) (λk d=>by rw[g!,List.getElem?_append_left (by rw[BU];exact d)]) (BU s)];simp only[];rw[aaW e]
end
section
variable{h h':Hp}{el:TypeId}{bt:Nat}{c:EqC}{P:Program}
def fG(n:Nat)(i:Pos)(q:Nat):aH .eql (.ptr n) (.ptr i q) .dn h=.ok (.bool false) h:=(rfl)
def ayP(n:Nat)(i:Pos)(q:Nat):aH .neq (.ptr n) (.ptr i q) .dn h=.ok (.bool true) h:=(rfl)
def aiW(n:Nat):aH .eql (.ptr n) .dn .dn h=.ok (.bool true) h:=(rfl)
def au9{n:Nat}(hn:e! n 0=false)(i:Pos)(q:Nat):aH .neq (.ptr n) (.ptr i q) (.ptr i q) h=.ok (.bool false) h:=by
 show(match e! n 0,i.eq i with|false,true=>fQ (not (e! q q)) h|_,_=>.bad)=_;rw[hn,Pos.eq_self,q!];rfl
def aKQ{i:Pos}{wr:Wr}{l:List V}{q:Nat}{v:V}(a:h.get i=some (.cells wr l))(b:l[q]?=some v):ap7 (.ptr i q) h=.ok (.ptr i q) h:=by
 show dV h i (λ_ cs=>(match MH q cs with|some _=>R.ok (V.ptr i q) h|none=>.bad))=_;rw[dW (wr:=wr) (all:=l) (by rw[a];rfl),nY,b]
def aFi{i:Pos}{t u:TypeId}{l:List V}{q:Nat}{v:V}(a:h.get i=some (.cells (.rw t true) l))(b:l[q]?=some v)(hl:liesAt P P.depth t (l.length / P.cellsOf t) q u 1=true):Zh P u (.ptr i q) h=.ok (.ptr i q) h:=by
 show dV h i (λwr cs=>(match wr with
  | .rw t full=>(match full,MH q cs,liesAt P P.depth t (cs.length / P.cellsOf t) q u 1 with
   |true,some _,true=>R.ok (V.ptr i q) h
   |_,_,_=>.bad)
  | .ro=>.bad))=_
 rw[dW (wr:=.rw t true) (all:=l) (by rw[a];rfl)];simp only[nY,b,hl]
def aLt{b n:Nat}{v:V}{s t:List Nat}(o:Ow b h el 1 v n (bys s))(hb:b<=h.next.nat)(d:(n+t.length)*bt<=140737488355328):
  ∃g h',bZ el 1 bt v (.str t) h=.ok g h'/\Ow b h' el 1 g (n+t.length) (bys (s++t))/\Ch (λj=>bI v=some j) h h'/\(∀j,bI g=some j->bI v=some j\/h.next.nat<=j.nat):=by
 have hl:(bys (s++t)).length=(n+t.length)*1:=by rw[abl,F!,o.len,BU];omega
 have a:∀f:Nat->List V->R V,Ae 1 (.str t) h f=f t.length (bys t):=λf=>by
  show(match e! 1 1 with|true=>f t.length (u8s t)|false=>.bad)=_;rw[azY]
 unfold bZ;rw[a];cases t with
 |nil=>
  simp only[C!,List.append_nil] at*;rcases o.is with⟨rfl,rfl⟩|⟨i,rfl,e,hi,f1,k⟩
  ·exact⟨_,_,rfl,o,Ch.refl _ _,λj hj=>(by cases hj)⟩
  ·exact⟨_,_,rfl,o,Ch.refl _ _,λj hj=>.inl hj⟩
 |cons c t=>
  simp only[j!];rcases o.is with⟨rfl,rfl⟩|⟨i,rfl,e,hi,f1,k⟩
  ·have p:s= []:=by have:=o.len;rw[BU]at this;exact o!.1 (by omega)
   subst p;simp only[];rw[lM (by rw[j!,g!]at d;exact d)];refine⟨_,_,rfl,⟨hl,.inr ⟨h.next,by simp,hb,by rw[bJ];omega,false,?_⟩⟩,Ch.new _ _ _,λj hj=>by cases hj;exact .inr (l! _)⟩;rw[L!];exact dY _ _
  ·simp only[];rw[dW (wr:=.rw el f1) (all:=bys s) (by rw[k];rfl)];have hn:(bys s).length=n*1:=o.len;have l:gy (n*1) (fB 0 (bys s))=some (bys s):=by rw[jU,x!,<-hn,afc]
   have m:fB (n*1) (fB 0 (bys s))= []:=by rw[jU,jU,x!,<-hn,K!]
   simp only[dM,l,m,q!];rw[lM (by rw[j!]at d;exact d)];refine⟨_,_,rfl,⟨hl,.inr ⟨h.next,rfl,hb,by rw[bJ,jQ];omega,false,?_⟩⟩,(Ch.put (S:=λj=>bI (.slice i 0 n (.un 1))=some j) h none rfl).trans (Ch.new (λ_=>False) _ _) λ_ _ q=>q.elim,λj hj=>by cases hj;exact .inr (l! _)⟩;rw[abl];exact dY (h.put i none) _
def auD{i:Pos}{t:TypeId}{f:Bool}{s:List Nat}(e:h.get i=some (.cells (.rw t f) (bys s)))(g:∀b∈s,b<256)(hl:s.length<=9223372036854775807)(h0:s≠ []):
  IZ t (.ptr i 0) (.int .i64 (s.length:Int)) h=.ok (.str s) (h.put i (some (.cells .ro (bys s)))):=by
 obtain⟨m,d⟩:∃m,s.length=m+1:=by
  cases s with
  |nil=>exact absurd rfl h0
  |cons a l=>exact⟨l.length,rfl⟩
 rw[d];show dV h i (λwr cs=>(match wr with
   | .rw t' _=>(match e! t' t with
    |true=>(match gy (m+1) (fB 0 cs) with
     |some l=>(match sO l with
      |some s=>(match c! s.length 9223372036854775807 with|true=>R.ok (V.str s) (h.put i (some (.cells .ro cs)))|false=>.bad)
      |none=>.bad)
     |none=>.bad)
    |false=>.bad)
   | .ro=>.bad))=_
 rw[dW (wr:=.rw t f) (all:=bys s) (by rw[e];rfl)];simp only[q!];rw[uO (cs:=bys s) (λk j=>by rw[g!]) (by rw[BU,d])];simp only[];rw[aaW g];simp only[];rw[b! hl]
end
section
variable{h:Hp}{el:TypeId}{c:EqC}
def avC{a b:Int}(d: -9223372036854775808<=a*b)(e:a*b<9223372036854775808):aH .mul c (.int .i64 a) (.int .i64 b) h=.ok (.int .i64 (a*b)) h:=by
 show iM .i64 (wrap64 (a*b)) h=_;rw[wrap64_in d e,gZ]
def avz{a b:Int}(h0:b≠0)(d: -9223372036854775808<=a.tdiv b)(e:a.tdiv b<9223372036854775808):aH .quo c (.int .i64 a) (.int .i64 b) h=.ok (.int .i64 (a.tdiv b)) h:=by
 show(match nO b 0 with|true=>R.bad|false=>iM .i64 (wrap64 (Int.tdiv a b)) h)=_;rw[Ai,decide_eq_false h0];simp only[];rw[wrap64_in d e,gZ]
def afD:XC .aP h=.ok (.int .i64 0) h:=(rfl)
def WI:aZ 2 .aP h=.ok (.int .i64 0) h:=(rfl)
def aEW{n:Nat}(hn:n<=140737488355328):afH el [.int .i64 (n:Int)] h=.ok (.slice h.next 0 n (.un 1)) (h.new (.cells (.rw el false) [])):=by
 show(match c! n 140737488355328 with
     |true=>R.ok (V.slice h.next 0 n (.un 1)) (h.new (.cells (.rw el false) []))
     |false=>.bad)=_
 rw[b! hn]
def aC8(p:Pos)(n:Nat):fM 1 (.slice p 0 n (.un 1)) none (some (.int .i64 0)) none h=.ok (.slice p 0 0 (.un 1)) h:=by
 show(match c! 0 n,c! 0 0,e! 1 1 with
  |true,true,true=>R.ok (V.slice p 0 0 (.un 1)) h
  |_,_,_=>R.bad)=_
 rw[b! (u! n)]
def aDc(p:Pos)(o n:Nat)(k:Cap):anh 1 (.slice p o n k) .aP h=.ok (.int .i64 0) h:=by
 show(match c! 0 n with|true=>R.ok (V.int .i64 (.ofNat 0)) h|false=>.bad)=_;rw[b! (u! n)];rfl
def aAW{m:Hp->R V}{v:V}{k:Out}{g a g' b:Hp}(f:m g=.ok v g')(d:m a=.ok v b)(e:eqV v v=true):chk m v k 2 [g,a]=k:=by
 show(match m g with| .ok i _=>(match eqV v i with|true=>chk m v k 1 [a]|false=>.bad)| .bad=>.bad)=_;rw[f];simp only[e];exact MS d e
def dH(sep:List Nat):List (List Nat)->List Nat
 | []=> []
 |a::r=>(match r with| []=>a|_::_=>a++sep++dH sep r)
def zl(sep:List Nat)(l:List (List Nat)):List Nat:=(l.map λa=>sep++a).flatten
def xI(sep a:List Nat):∀r,dH sep (a::r)=a++zl sep r
 | []=>by simp[dH,zl]
 |b::r=>by
  show a++sep++dH sep (b::r)=_;rw[xI sep b r];simp[zl]
def anr(sep:List Nat)(l:List (List Nat))(a:List Nat):zl sep (l++ [a])=zl sep l++(sep++a):=by simp[zl]
def fP(l:List (List Nat)):Nat:=(l.map List.length).sum
def aCQ(l:List (List Nat))(a:List Nat):fP (l++ [a])=fP l+a.length:=by simp[fP]
def amZ(l:List (List Nat))(k:Nat):fP (l.take k)<=fP l:=by
 have e:fP l=fP (l.take k)+fP (l.drop k):=by
  unfold fP;rw[<-List.sum_append,<-List.map_append,List.take_append_drop]
 omega
def WM(sep:List Nat)(l:List (List Nat)):(zl sep l).length=fP l+sep.length*l.length:=by
 induction l with
 |nil=>simp[zl,fP]
 |cons a l b=>simp[zl,fP]at b⊢;rw[b,Nat.mul_succ];omega
end
def vmL:type_of% @YU/\type_of% @Oz/\type_of% @arO/\type_of% @auE/\type_of% @alA/\type_of% @aqD/\type_of% @sS/\type_of% @alH/\type_of% @av2/\type_of% @asa/\type_of% @aql/\type_of% @aqm/\type_of% @aAZ/\type_of% @awF/\type_of% @awE/\type_of% @aqE/\type_of% @O!/\type_of% @P!/\type_of% @UB/\type_of% @aaT/\type_of% @avH/\type_of% @avA/\type_of% @avD/\type_of% @avE/\type_of% @avF/\type_of% @avG/\type_of% @aAk/\type_of% @anb/\type_of% @aiV/\type_of% @ang/\type_of% @anf/\type_of% @ane/\type_of% @aAm/\type_of% @aAn/\type_of% @acK/\type_of% @Uy/\type_of% @avy/\type_of% @Y5/\type_of% @UC/\type_of% @afE/\type_of% @yF/\type_of% @avu/\type_of% @acL/\type_of% @alJ/\type_of% @aAX/\type_of% @anJ/\type_of% @acP/\type_of% @Y4/\type_of% @asn/\type_of% @S!/\type_of% @Q!:=
 ⟨@YU,@Oz,@arO,@auE,@alA,@aqD,@sS,@alH,@av2,@asa,@aql,@aqm,@aAZ,@awF,@awE,@aqE,@O!,@P!,@UB,@aaT,@avH,@avA,@avD,@avE,@avF,@avG,@aAk,@anb,@aiV,@ang,@anf,@ane,@aAm,@aAn,@acK,@Uy,@avy,@Y5,@UC,@afE,@yF,@avu,@acL,@alJ,@aAX,@anJ,@acP,@Y4,@asn,@S!,@Q!⟩
def vsL:type_of% @lW/\type_of% @UA/\type_of% @ar0/\type_of% @acJ/\type_of% @g!/\type_of% @au4:=
 ⟨@lW,@UA,@ar0,@acJ,@g!,@au4⟩
def vpL:(∀{α:Type} (a b:α),(some a).getD b=a)/\(∀{α:Type} (b:α),(none:Option α).getD b=b)/\(∀{α:Type} (a:α),(some a).isSome=true)/\(∀{α:Type},(none:Option α).isSome=false):=
 ⟨λ_ _=>rfl,λ_=>rfl,λ_=>rfl,rfl⟩
def vqL:(∀{α:Type} (a b:α),(a≠b)=¬(a=b))/\(∀h:Decidable True,@decide True h=true)/\(∀h:Decidable False,@decide False h=false)/\((¬True)=False)/\((¬False)=True):=
 ⟨λ_ _=>rfl,λh=>decide_true h,λh=>decide_false h,propext not_true,not_false_eq_true⟩
section
variable{P:Program}{G:Nat}
abbrev Rg:Type:=F->Hp->Out
def kR{p:Prop}(h:p:=by kernel_rfl):p:=h
def ge(n:Nat)(fr:F):Option V:=T.get fr (Pos.of n)
instance:CoeFun F (λ_=>Nat->(V->Out)->Out):=⟨λf n=>gtO (ge n f)⟩
def ss(n:Nat)(v:V)(fr:F):F:=T.set (some v) (Pos.of n) fr
def rM(d s:Nat)(fr:F)(h:Hp):Out:=gtO (T.get fr (Pos.of s)) λv=>.nor (T.set (some v) (Pos.of d) fr) h
def rC(d:Nat)(c:V)(fr:F)(h:Hp):Out:=.nor (T.set (some c) (Pos.of d) fr) h
def r1(d s:Nat)(f:V->Hp->R V)(fr:F)(h:Hp):Out:=gtO (T.get fr (Pos.of s)) λv=>f v h λw g=>.nor (T.set (some w) (Pos.of d) fr) g
def r2(d a b:Nat)(f:V->V->Hp->R V)(fr:F)(h:Hp):Out:=gtO (T.get fr (Pos.of a)) λu=>gtO (T.get fr (Pos.of b)) λv=>f u v h λw g=>.nor (T.set (some w) (Pos.of d) fr) g
def vzL:(∀n fr,ge n fr=T.get fr (Pos.of n))/\(∀n v fr,ss n v fr=T.set (some v) (Pos.of n) fr)/\(∀d s fr h,rM d s fr h=gtO (T.get fr (Pos.of s)) λv=>.nor (T.set (some v) (Pos.of d) fr) h)/\
  (∀d c fr h,rC d c fr h=.nor (T.set (some c) (Pos.of d) fr) h)/\(∀d s f fr h,r1 d s f fr h=gtO (T.get fr (Pos.of s)) λv=>f v h λw g=>.nor (T.set (some w) (Pos.of d) fr) g)/\
  (∀d a b f fr h,r2 d a b f fr h=gtO (T.get fr (Pos.of a)) λu=>gtO (T.get fr (Pos.of b)) λv=>f u v h λw g=>.nor (T.set (some w) (Pos.of d) fr) g):=
 ⟨λ_ _=>rfl,λ_ _ _=>rfl,λ_ _ _ _=>rfl,λ_ _ _ _=>rfl,λ_ _ _ _ _=>rfl,λ_ _ _ _ _ _=>rfl⟩
def kp(l:List Nat)(t:Nat):Bool:=MK t l
def fE1{P:Program}{ks:List Nat}{N:Nat}{b:List ResultVar}{D:F->Hp->Out}(F:Fun)(e:F=aY P (kp ks) N b D)(q:(c! 1 N&&kp ks 0)=true:=by kernel_rfl)(a:V)(h:Hp):F [a] h=bV P b (D (ss 0 a T.nil) h):=by
 simp only[a!]at q;rw[e];unfold aY;rw[show c! [a].length N=true from q.1];unfold FK;rw[q.2];rfl
def fE2{P:Program}{ks:List Nat}{N:Nat}{c:List ResultVar}{D:F->Hp->Out}(F:Fun)(e:F=aY P (kp ks) N c D)(q:(c! 2 N&&(kp ks 0&&kp ks 1))=true:=by kernel_rfl)(a b:V)(h:Hp):F [a,b] h=bV P c (D (ss 1 b (ss 0 a T.nil)) h):=by
 simp only[a!]at q;rw[e];unfold aY;rw[show c! [a,b].length N=true from q.1];unfold FK FK;rw[q.2.1,q.2.2];rfl
def fE3{P:Program}{ks:List Nat}{N:Nat}{d:List ResultVar}{D:F->Hp->Out}(F:Fun)(e:F=aY P (kp ks) N d D)(q:(c! 3 N&&(kp ks 0&&(kp ks 1&&kp ks 2)))=true:=by kernel_rfl)(a b c:V)(h:Hp):F [a,b,c] h=bV P d (D (ss 2 c (ss 1 b (ss 0 a T.nil))) h):=by
 simp only[a!]at q;rw[e];unfold aY;rw[show c! [a,b,c].length N=true from q.1];unfold FK FK FK;rw[q.2.1,q.2.2.1,q.2.2.2];rfl
def fE4{P:Program}{ks:List Nat}{N:Nat}{f:List ResultVar}{D:F->Hp->Out}(F:Fun)(e:F=aY P (kp ks) N f D)(q:(c! 4 N&&(kp ks 0&&(kp ks 1&&(kp ks 2&&kp ks 3))))=true:=by kernel_rfl)(a b c d:V)(h:Hp):F [a,b,c,d] h=bV P f (D (ss 3 d (ss 2 c (ss 1 b (ss 0 a T.nil)))) h):=by
 simp only[a!]at q;rw[e];unfold aY;rw[show c! [a,b,c,d].length N=true from q.1];unfold FK FK FK FK;rw[q.2.1,q.2.2.1,q.2.2.2.1,q.2.2.2.2];rfl
def fE5{P:Program}{ks:List Nat}{N:Nat}{f:List ResultVar}{D:F->Hp->Out}(F:Fun)(e:F=aY P (kp ks) N f D)(q:(c! 5 N&&(kp ks 0&&(kp ks 1&&(kp ks 2&&(kp ks 3&&kp ks 4)))))=true:=by kernel_rfl)(a b c d l:V)(h:Hp):F [a,b,c,d,l] h=bV P f (D (ss 4 l (ss 3 d (ss 2 c (ss 1 b (ss 0 a T.nil))))) h):=by
 simp only[a!]at q;rw[e];unfold aY;rw[show c! [a,b,c,d,l].length N=true from q.1];unfold FK FK FK FK FK;rw[q.2.1,q.2.2.1,q.2.2.2.1,q.2.2.2.2.1,q.2.2.2.2.2];rfl
def pI:List (FuncId×Fun)->FuncId->Option Fun
 | [],_=>none
 |(g,F)::l,f=>(match e! f g with|true=>some F|false=>pI l f)
def aTO:Nat->Cls
 |0=>.pure
 |1=>.alloc
 |2=>.heavy
 |n+3=>.read n
def fU:List Nat->Plan
 | []=> []
 |n::l=>(n / 16,aTO (n % 16))::fU l
def plL:List (Nat×List Nat×Plan)->bY
 | [],_=>none
 |(g,m,p)::l,f=>(match e! f g with|true=>some (m,p)|false=>plL l f)
def bC:∀f F,pI [] f=some F->aG P G f F:=λ_ _ h=>by cases h
def aU{g:FuncId}{F:Fun}{l:List (FuncId×Fun)}(b:aG P G g F)(c:∀f F,pI l f=some F->aG P G f F):∀f a,pI ((g,F)::l) f=some a->aG P G f a:=aQ b c
def vvA:type_of% vmL/\type_of% vpL/\type_of% vsL/\type_of% vqL/\type_of% vzL:=⟨vmL,vpL,vsL,vqL,vzL⟩
def qS0{p:Prop}(h:p:=by simp only[vvA,seval]):p:=h
def qS2{p q:Prop}(f:q)(h:q->p:=by intro f;simp only[vvA,seval,f]):p:=h f
def qS1{p:Prop}(h:p:=by simp only[vvA,seval]<;>rfl):p:=h
def qS3{p q:Prop}(f:q)(h:q->p:=by intro f;simp only[vvA,seval,f]<;>rfl):p:=h f
end
section
variable{P:Program}{G N:Nat}{keep:Nat->Bool}{e:FuncId->Option Fun}
def gone(c:List Nat):Code->Bool
 | .region id _ _=>MK id c
 | .seq a _=>gone c a
 | .cond _ a b=>gone c a&&gone c b
 | .block _ b=>gone c b
 | .loop b=>gone c b
 | .scope b=>gone c b
 |_=>false
def FW(f:List Nat):Code->Code
 | .region id ops d=>(match MK id f with|true=>.refuse "" |false=>.region id ops d)
 | .seq a b=>(match gone f a with|true=>.refuse "" |false=>.seq (FW f a) (FW f b))
 | .cond c a b=>(match gone f a&&gone f b with|true=>.refuse "" |false=>.cond c (FW f a) (FW f b))
 | .block id b=>(match gone f b with|true=>.refuse "" |false=>.block id (FW f b))
 | .loop b=>(match gone f b with|true=>.refuse "" |false=>.loop (FW f b))
 | .scope b=>(match gone f b with|true=>.refuse "" |false=>.scope (FW f b))
 |c=>c
def Gx(k:P.follows .mixedOrders=true)(j:∀f F,e f=some F->aG P G f F)(l:List Nat)(pl:bY)(lf:Nat):(c:Code)->codeOk G N c=true->eU P keep G N c (lY P G N keep e pl lf (FW l c))
 | .skip,h=>eF k j pl lf _ h
 | .label _,h=>eF k j pl lf _ h
 | .region id ops d,h=>by
  unfold FW;split
  ·exact .bad
  ·exact eF k j pl lf _ h
 | .seq a b,i=>by
  unfold FW;split
  ·exact .bad
  ·simp only[codeOk,a!]at i;exact .seq (Gx k j l pl lf a i.1) (Gx k j l pl lf b i.2)
 | .cond c a b,i=>by
  unfold FW;split
  ·exact .bad
  ·simp only[codeOk,a!]at i;simp only[lY,aAT];refine .cond (λg m=>?_) (Gx k j l pl lf a i.2.1) (Gx k j l pl lf b i.2.2);subst m;simpa[d!]using i.1
 | .block id b,i=>by
  unfold FW;split
  ·exact .bad
  ·exact .block (Gx k j l pl lf b i)
 | .loop b,i=>by
  unfold FW;split
  ·exact .bad
  ·exact .loop (Gx k j l pl lf b i) lf
 | .scope b,i=>by
  unfold FW;split
  ·exact .bad
  ·exact .scope (Gx k j l pl lf b i)
 | .exit _,h=>eF k j pl lf _ h
 | .ret,h=>eF k j pl lf _ h
 | .goto _,_=>.bad
 | .rangeFunc ..,_=>.bad
 | .refuse _,_=>.bad
def zz:F->Hp->Out:=λ_ _=>.bad
def prX(i:P.follows .mixedOrders=true){f:FuncId}{fn:Func}{N:Nat}{c:List ResultVar}{ks:List Nat}{D:F->Hp->Out}{l:List (FuncId×Fun)}(b:List Nat)(pl:List (Nat×List Nat×Plan))(g:∀f F,pI l f=some F->aG P G f F)(h:P.funcs[f]?=some fn)
  (a:aul G fn=true:=by kernel_rfl) (d:lY P G N (kp ks) (pI l) (plL pl) lf (FW b (codeOf fn))=D:=by kernel_rfl) (j:(fn.ntmps,fn.results.toList)=(N,c):=by kernel_rfl) (hb:fn.body=some (codeOf fn):=by kernel_rfl):aG P G f (aY P (kp ks) N c D):=by
 cases j;unfold aul at a;rw[hb]at a;simp only[a!,Bool.not_eq_true']at a;rw[<-d];exact aAY h a.2 hb (Gx i g b (plL pl) lf _ a.1)
end
section
variable{P:Program}{G:Nat}
def Tn(ρ:Pos->Pos):Fn->Fn
 | .yield k=>.yield (ρ (Pos.of k)).nat
 | .func f=>.func f
 | .method n=>.method n
 | .methodOf t n=>.methodOf t n
 | .via t p f b=>.via t p f b
def aii(n:Nat):Fn->Bool
 | .yield k=>h! k n
 | .func _=>true
 | .method _=>true
 | .methodOf _ _=>true
 | .via _ _ _ _=>true
def V.ren(ρ:Pos->Pos):V->V
 | .bool b=>.bool b
 | .int k n=>.int k n
 | .str s=>.str s
 | .ptr i o=>.ptr (ρ i) o
 | .dn=>.dn
 | .slice i o n c=>.slice (ρ i) o n c
 | .aP=>.aP
 | .emp=>.emp
 | .map i=>.map (ρ i)
 | .jT=>.jT
 | .func fn a b=>.func (Tn ρ fn) (a.ren ρ) (b.ren ρ)
 | .gV=>.gV
 | .iface t v=>.iface t (v.ren ρ)
 | .oL=>.oL
 | .agg l=>.agg (l.ren ρ)
 | .tuple l=>.tuple (l.ren ρ)
 | .nil=>.nil
 | .cons a b=>.cons (a.ren ρ) (b.ren ρ)
def V.ins(n:Nat):V->Bool
 | .bool _=>true
 | .int _ _=>true
 | .str _=>true
 | .ptr i _=>h! i.nat n
 | .dn=>true
 | .slice i _ _ _=>h! i.nat n
 | .aP=>true
 | .emp=>true
 | .map i=>h! i.nat n
 | .jT=>true
 | .func fn a b=>aii n fn&&(a.ins n&&b.ins n)
 | .gV=>true
 | .iface _ v=>v.ins n
 | .oL=>true
 | .agg l=>l.ins n
 | .tuple l=>l.ins n
 | .nil=>true
 | .cons a b=>a.ins n&&b.ins n
def Ob.ren(ρ:Pos->Pos):Ob->Ob
 | .cells w cs=>.cells w (cs.map (V.ren ρ))
 | .map es=>.map (es.map λp=>(p.1.ren ρ,p.2.ren ρ))
 | .iter s n=>.iter s n
 | .bytes cs=>.bytes (cs.map (V.ren ρ))
def insL(n:Nat):List V->Bool
 | []=>true
 |v::l=>v.ins n&&insL n l
def aa6(n:Nat):List (V×V)->Bool
 | []=>true
 |p::l=>(p.1.ins n&&p.2.ins n)&&aa6 n l
def Ob.ins(n:Nat):Ob->Bool
 | .cells _ cs=>insL n cs
 | .map es=>aa6 n es
 | .iter _ _=>true
 | .bytes cs=>insL n cs
def UI{n:Nat}:∀{l:List V},insL n l=true->∀v∈l,v.ins n=true
 | [],_,v,h=>by cases h
 |u::l,h,v,a=>by
  simp only[insL,a!]at h;rcases R!.1 a with rfl|a
  ·exact h.1
  ·exact UI h.2 v a
def V.nX(ρ:Pos->Pos)(v:V):(v.ren ρ).isRow=v.isRow:=by cases v<;>rfl
def Ob.BM(ρ:Pos->Pos)(o:Ob):(o.ren ρ).own=o.own:=by cases o<;>rfl
def ar8(ρ:Pos->Pos)(x y:V):iR (x.ren ρ) (y.ren ρ)=iR x y:=by cases x<;>cases y<;>rfl
variable{M N:Mp}{ρ:Pos->Pos}
def Cm.ren(c:∀i L,N i=some L->M (ρ i)=some L){f g:Fn}(h:Cm N f g):Cm M (Tn ρ f) g:=by
 cases f<;>first|exact h|(obtain⟨L,a,b⟩:=h;exact⟨L,by rw[Pos.OE];exact c _ _ a,b⟩)
def Cm.oz{n:Nat}(c:∀i,i.nat<n->∀L,M (ρ i)=some L->N i=some L){f g:Fn}(hi:aii n f=true)(h:Cm M (Tn ρ f) g):Cm N f g:=by
 cases f<;>first|exact h|(obtain⟨L,a,b⟩:=h;exact⟨L,c _ (by rw[Pos.gG];simpa[aii,d!]using hi) L (by rw[Pos.OE]at a;exact a),b⟩)
def Rep.ren(r:∀i L,N i=some L->M (ρ i)=some L){v:V}:∀{l:List Value},Rep N v l->Rep M (v.ren ρ) l:=by
 induction v with
 |ptr i o=>rintro l ⟨L,h,e⟩;exact⟨L,r _ _ h,e⟩
 |slice i o n c=>rintro l ⟨L,k,h,s,e⟩;exact⟨L,k,r _ _ h,s,e⟩
 |map i=>rintro l ⟨L,h,e⟩;exact⟨L,r _ _ h,e⟩
 |func fn a b d j=>rintro l ⟨f,x,y,q,p,h,g,e⟩;exact⟨f,x,y,q.ren r,⟨by rw[V.nX];exact p.1,by rw[V.nX];exact p.2⟩,d h,j g,e⟩
 |iface t v m=>rintro l ⟨x,p,h,e⟩;exact⟨x,by rw[V.nX];exact p,m h,e⟩
 |agg a m=>rintro l ⟨x,p,h,e⟩;exact⟨x,by rw[V.nX];exact p,m h,e⟩
 |tuple a m=>rintro l ⟨x,p,h,e⟩;exact⟨x,by rw[V.nX];exact p,m h,e⟩
 |cons a b d j=>rintro l ⟨x,xs,q,h,p,g,e⟩;exact⟨x,xs,by rw[V.nX];exact q,d h,by rw[V.nX];exact p,j g,e⟩
 |_=>intro l h;exact h
def Rep.oz{n:Nat}(r:∀i,i.nat<n->∀L,M (ρ i)=some L->N i=some L){v:V}:∀{l:List Value},v.ins n=true->Rep M (v.ren ρ) l->Rep N v l:=by
 induction v with
 |ptr i o=>rintro l hi ⟨L,h,e⟩;exact⟨L,r _ (by simpa[V.ins,d!]using hi) _ h,e⟩
 |slice i o n c=>rintro l hi ⟨L,k,h,s,e⟩;exact⟨L,k,r _ (by simpa[V.ins,d!]using hi) _ h,s,e⟩
 |map i=>rintro l hi ⟨L,h,e⟩;exact⟨L,r _ (by simpa[V.ins,d!]using hi) _ h,e⟩
 |func fn a b d j=>
  rintro l hi ⟨f,x,y,q,p,h,g,e⟩;simp only[V.ins,a!]at hi;rw[V.nX,V.nX]at p;exact⟨f,x,y,q.oz r hi.1,p,d hi.2.1 h,j hi.2.2 g,e⟩
 |iface t v m=>rintro l hi ⟨x,p,h,e⟩;rw[V.nX]at p;exact⟨x,p,m hi h,e⟩
 |agg a m=>rintro l hi ⟨x,p,h,e⟩;rw[V.nX]at p;exact⟨x,p,m hi h,e⟩
 |tuple a m=>rintro l hi ⟨x,p,h,e⟩;rw[V.nX]at p;exact⟨x,p,m hi h,e⟩
 |cons a b d j=>
  rintro l hi ⟨x,xs,q,h,p,g,e⟩;simp only[V.ins,a!]at hi;rw[V.nX]at p q;exact⟨x,xs,q,d hi.1 h,p,j hi.2 g,e⟩
 |_=>intro l _ h;exact h
def Rp.ren(a:∀i L,N i=some L->M (ρ i)=some L){v:V}{c:Value}(h:Rp N v c):Rp M (v.ren ρ) c:=⟨by rw[V.nX];exact h.1,h.2.ren a⟩
def Rp.oz{n:Nat}(a:∀i,i.nat<n->∀L,M (ρ i)=some L->N i=some L){v:V}{c:Value}(hi:v.ins n=true)(h:Rp M (v.ren ρ) c):Rp N v c:=⟨by rw[<-V.nX ρ];exact h.1,h.2.oz a hi⟩
def cO.oz{n:Nat}(a:∀i,i.nat<n->∀L,M (ρ i)=some L->N i=some L):∀{vs:List V} {l:List Value},insL n vs=true->cO M (vs.map (V.ren ρ)) l->cO N vs l
 | [],_,_,h=>h
 |v::vs,_,hi,⟨x,xs,h,g,e⟩=>by
  simp only[insL,a!]at hi;exact⟨x,xs,h.oz a hi.1,cO.oz a hi.2 g,e⟩
def jB.ren(a:∀i L,N i=some L->M (ρ i)=some L):∀{es:List (V×V)} {l:List MapEntry},jB N es l->jB M (es.map λp=>(p.1.ren ρ,p.2.ren ρ)) l
 | [],_,h=>h
 |_::_,_,⟨e,es,h,g,x⟩=>⟨e,es,⟨h.1.ren a,h.2.ren a⟩,jB.ren a g,x⟩
def jB.oz{n:Nat}(a:∀i,i.nat<n->∀L,M (ρ i)=some L->N i=some L):∀{es:List (V×V)} {l:List MapEntry},aa6 n es=true->jB M (es.map λp=>(p.1.ren ρ,p.2.ren ρ)) l->jB N es l
 | [],_,_,h=>h
 |p::ps,_,hi,⟨e,es,h,g,x⟩=>by
  simp only[aa6,a!]at hi;exact⟨e,es,⟨h.1.oz a hi.1.1,h.2.oz a hi.1.2⟩,jB.oz a hi.2 g,x⟩
def iE.ren{es:List (V×V)}(h:iE es):iE (es.map λp=>(p.1.ren ρ,p.2.ren ρ)):=by
 unfold iE at*;rw[p!,show((λx=>x.1)∘λp:V×V=>(p.1.ren ρ,p.2.ren ρ))=(V.ren ρ)∘(λx=>x.1) from rfl,<-p!,H!];exact h.imp λh=>by rw[ar8];exact h
def iE.oz{es:List (V×V)}(h:iE (es.map λp=>(p.1.ren ρ,p.2.ren ρ))):iE es:=by
 unfold iE at*;rw[p!,show((λx=>x.1)∘λp:V×V=>(p.1.ren ρ,p.2.ren ρ))=(V.ren ρ)∘(λx=>x.1) from rfl,<-p!,H!]at h;exact h.imp λh=>by rw[ar8]at h;exact h
def aAz{cs:List V}{k:Nat}{v:V}(h:(cs.map (V.ren ρ))[k]?=some v):∃u,cs[k]?=some u/\v=u.ren ρ:=by
 rw[I!]at h;cases a:cs[k]? with
 |none=>rw[a]at h;cases h
 |some u=>rw[a]at h;cases h;exact⟨u,rfl,rfl⟩
def get_map{cs:List V}{k:Nat}{v:V}(h:cs[k]?=some v):(cs.map (V.ren ρ))[k]?=some (v.ren ρ):=by rw[I!,h];rfl
def ku.ren(e:∀i L,N i=some L->M (ρ i)=some L){L:Loc}{w:World}{o:Ob}(h:ku N L w o):ku M L w (o.ren ρ):=by
 cases o with
 |cells wr cs=>
  obtain⟨c,el,fr,a,b,g,f⟩:=h;exact⟨c,el,fr,a,b,λk v j=>by obtain⟨u,m,rfl⟩:=aAz j;obtain⟨x,p,q,r⟩:=g k u m;exact⟨x,p,q.ren e,r⟩,by rw[M!];exact f⟩
 |map es=>
  obtain⟨en,n,a,⟨l,p,q⟩,b,c,d⟩:=h;exact⟨en,n,a,⟨l,p,q.ren e⟩,b.ren,c,d⟩
 |iter s pos=>exact h
 |bytes cs=>
  obtain⟨c,el,fr,a,b,g,f⟩:=h;exact⟨c,el,fr,a,b,λk v j=>by obtain⟨u,m,rfl⟩:=aAz j;obtain⟨x,p,q,r⟩:=g k u m;exact⟨x,p,q.ren e,r⟩,f⟩
def ku.oz{n:Nat}(j:∀i,i.nat<n->∀L,M (ρ i)=some L->N i=some L){L:Loc}{w:World}{o:Ob}(hi:o.ins n=true)(h:ku M L w (o.ren ρ)):ku N L w o:=by
 cases o with
 |cells wr cs=>
  obtain⟨c,el,fr,a,b,g,f⟩:=h;exact⟨c,el,fr,a,b,λk v e=>by obtain⟨x,p,q,r⟩:=g k _ (get_map e);exact⟨x,p,q.oz j (UI hi _ (E! e)),r⟩,by rw[M!]at f;exact f⟩
 |map es=>
  obtain⟨en,m,a,⟨l,p,q⟩,b,c,d⟩:=h;exact⟨en,m,a,⟨l,p,q.oz j hi⟩,b.oz,c,d⟩
 |iter s pos=>exact h
 |bytes cs=>
  obtain⟨c,el,fr,a,b,g,f⟩:=h;exact⟨c,el,fr,a,b,λk v e=>by obtain⟨x,p,q,r⟩:=g k _ (get_map e);exact⟨x,p,q.oz j (UI hi _ (E! e)),r⟩,f⟩
end
section
variable{P:Program}{G:Nat}
structure Sub (G:Nat) (ρ:Pos->Pos) (K h:Hp):Prop where
 inj:∀i j,i.nat<K.next.nat->j.nat<K.next.nat->ρ i=ρ j->i=j
 lt:∀i,i.nat<K.next.nat->(ρ i).nat<h.next.nat
 ob:∀i o,K.get i=some o->i.nat<K.next.nat/\o.ins K.next.nat=true/\h.get (ρ i)=some (o.ren ρ)
 gl:∀g,g<G->g<K.next.nat/\ρ (Pos.of g)=Pos.of g
def sig(ρ:Pos->Pos)(a b:Nat)(i:Pos):Pos:=if i.nat<a then ρ i else Pos.of (i.nat - a+b)
def afq{ρ:Pos->Pos}{a b:Nat}{i:Pos}(h:i.nat<a):sig ρ a b i=ρ i:=if_pos h
def am0{ρ:Pos->Pos}{a b:Nat}{i:Pos}(h:a<=i.nat):sig ρ a b i=Pos.of (i.nat - a+b):=if_neg (by omega)
structure Glued (ρ:Pos->Pos) (K K' h h':Hp):Prop where
 next:h'.next.nat=h.next.nat+(K'.next.nat - K.next.nat)
 old:∀i,i.nat<K.next.nat->K.get i≠none->h'.get (ρ i)=(K'.get i).map (Ob.ren (sig ρ K.next.nat h.next.nat))
 new:∀i,K.next.nat<=i.nat->i.nat<K'.next.nat->h'.get (sig ρ K.next.nat h.next.nat i)=(K'.get i).map (Ob.ren (sig ρ K.next.nat h.next.nat))
 oth:∀j,(∀i,i.nat<K.next.nat->K.get i≠none->ρ i≠j)->(j.nat<h.next.nat\/h'.next.nat<=j.nat)->h'.get j=h.get j
def Does(P:Program)(G:Nat)(f:FuncId)(a0:List V)(K:Hp)(r:V)(a:Hp):Prop:=
 ∀(M:Mp) (w:World) (cargs:List Value),Rel G M K w->cO M a0 cargs->Opq P (Post G M K w r a) ((callFunc f cargs.toArray).run P w)
def avS{f:FuncId}{a0:List V}{K K' h h':Hp}{ρ:Pos->Pos}{r0:V}(hD:Does P G f a0 K r0 K')(S:Sub G ρ K h)(hi:insL K.next.nat a0=true)(hG:Glued ρ K K' h h'){M:Mp}{w:World}{cargs:List Value}(H:Rel G M h w)(ha:cO M (a0.map (V.ren ρ)) cargs):
  Opq P (Post G M h w (r0.ren (sig ρ K.next.nat h.next.nat)) h') ((callFunc f cargs.toArray).run P w):=by
 have hN:∀i,i.nat<K.next.nat->∀L,M (ρ i)=some L->(if i.nat<K.next.nat then M (ρ i) else none)=some L:=λi hi L a=>by rw[if_pos hi];exact a
 have am:Rel G (λi=>if i.nat<K.next.nat then M (ρ i) else none) K w:=by
  refine⟨λi o ad=>?_,λi ap=>if_neg (by omega),λi j o p L Q D ad ar z a s=>?_,λg W=>?_⟩
  ·obtain⟨r,I,B⟩:=S.ob i o ad;obtain⟨L,a,hO⟩:=H.ob _ _ B;exact⟨L,hN i r L a,hO.oz hN I⟩
  ·obtain⟨r,-,B⟩:=S.ob i o ad;obtain⟨g1,-,g3⟩:=S.ob j p ar;simp only[r,g1,if_true]at a s;exact H.sep _ _ _ _ L Q (λq=>D (S.inj i j r g1 q)) B g3 (by rw[Ob.BM];exact z) a s
  ·obtain⟨r,I⟩:=S.gl g W;obtain⟨n,hn⟩:=H.gl g W;exact⟨n,by simp only[Pos.gG,r,if_true,I];exact hn⟩
 have ab:=hD _ w cargs am (ha.oz hN hi);refine Opq.mono (λc w' hp=>?_) ab;obtain⟨N',ax,aa,m⟩:=hp;have aw:=m.next
 have ag:∀i,i.nat<K.next.nat->N' i=M (ρ i):=λi x=>by
  cases hm:M (ρ i) with
  |none=>exact m.none i x (by simp only[x,if_true];exact hm)
  |some L=>exact m.le i L (hN i x L hm)
 obtain⟨M',Z⟩:∃M':Mp,M'=λj=>if j.nat<h.next.nat then M j else N' (Pos.of (j.nat - h.next.nat+K.next.nat)):=⟨_,rfl⟩
 have d:∀j,j.nat<h.next.nat->M' j=M j:=λj hj=>by rw[Z];exact if_pos hj
 have u:∀i,M' (sig ρ K.next.nat h.next.nat i)=N' i:=λi=>by
  rcases k! i.nat K.next.nat with q|q
  ·rw[afq q,d _ (S.lt i q),ag i q]
  ·rw[am0 q,Z];simp only[Pos.gG];rw[if_neg (by omega)];congr 1;exact Pos.yR (by rw[Pos.gG];omega)
 have J:∀i L,N' i=some L->M' (sig ρ K.next.nat h.next.nat i)=some L:=λi L a=>by rw[u];exact a
 have ae:M.le M':=λj L a=>by
  have:j.nat<h.next.nat:=by
   rcases k! j.nat h.next.nat with q|q
   ·exact q
   ·rw[H.fresh j q]at a;cases a
  rw[d j this];exact a
 have cases':∀j o,h'.get j=some o->(∃i o',K'.get i=some o'/\o=o'.ren (sig ρ K.next.nat h.next.nat)/\j=sig ρ K.next.nat h.next.nat i)\/
   (j.nat<h.next.nat/\h.get j=some o/\∀i,i.nat<K.next.nat->K.get i≠none->ρ i≠j):=λj o hj=>by
  by_cases O:∃i,i.nat<K.next.nat/\K.get i≠none/\ρ i=j
  ·obtain⟨i,r,I,rfl⟩:=O;rw[hG.old i r I]at hj;cases l:K'.get i with
   |none=>rw[l]at hj;cases hj
   |some o'=>rw[l]at hj;cases hj;exact .inl ⟨i,o',l,rfl,(afq r).symm⟩
  ·have y:∀i,i.nat<K.next.nat->K.get i≠none->ρ i≠j:=λi r I B=>O ⟨i,r,I,B⟩;rcases k! j.nat h.next.nat with q|q
   ·rw[hG.oth j y (.inl q)]at hj;exact .inr ⟨q,hj,y⟩
   ·rcases k! j.nat h'.next.nat with q'|q'
    ·have e1:j=sig ρ K.next.nat h.next.nat (Pos.of (j.nat - h.next.nat+K.next.nat)):=by
      rw[am0 (by rw[Pos.gG];omega),Pos.gG];exact Pos.yR (by rw[Pos.gG];omega)
     have av:=hG.next;rw[e1,hG.new _ (by rw[Pos.gG];omega) (by rw[Pos.gG];omega)]at hj;cases l:K'.get (Pos.of (j.nat - h.next.nat+K.next.nat)) with
     |none=>rw[l]at hj;cases hj
     |some o'=>rw[l]at hj;cases hj;exact .inl ⟨_,o',l,rfl,e1⟩
    ·rw[hG.oth j y (.inr q')]at hj;obtain⟨L,a,-⟩:=H.ob j o hj;rw[H.fresh j q]at a;cases a
 have apart:∀j o L,h.get j=some o->M j=some L->(∀i,i.nat<K.next.nat->K.get i≠none->ρ i≠j)->∀k p Q,K.get k=some p->(if k.nat<K.next.nat then M (ρ k) else none)=some Q->(o.own=true\/p.own=true)->L.blk≠Q.blk:=
  λj o L hj a y k p Q l s z=>by
   obtain⟨r,-,B⟩:=S.ob k p l;simp only[r,if_true]at s;have D:=y k r (by rw[l];simp);rcases z with z|z
   ·exact H.sep _ _ _ _ L Q D.symm hj B z a s
   ·exact λe=>H.sep _ _ _ _ Q L D B hj (by rw[Ob.BM];exact z) s a e.symm
 have al:Rel G M' h' w':=by
  refine⟨λj o hj=>?_,λj ap=>?_,λi j o p L Q D x aq z a s=>?_,λg W=>?_⟩
  ·rcases cases' j o hj with⟨i,o',l,rfl,rfl⟩|⟨au,W,y⟩
   ·obtain⟨L,a,hO⟩:=aa.ob i o' l;exact⟨L,J i L a,hO.ren J⟩
   ·obtain⟨L,a,hO⟩:=H.ob j o W;refine⟨L,by rw[d j au];exact a,(hO.of_block ?_).mono ae⟩;exact m.same L.blk hO.lt λk p Q l hp s=>λe=>apart j o L W a y k p Q l s (.inr hp) e.symm
  ·have av:=hG.next;rw[Z];simp only[];rw[if_neg (by omega)];exact aa.fresh _ (by rw[Pos.gG];omega)
  ·rcases cases' i o x with⟨i1,o1,E,rfl,rfl⟩|⟨t,C,U⟩<;>rcases cases' j p aq with⟨i2,o2,aj,rfl,rfl⟩|⟨X,ac,ak⟩
   ·rw[u]at a s;exact aa.sep i1 i2 o1 o2 L Q (λq=>D (by rw[q])) E aj (by rw[Ob.BM]at z;exact z) a s
   ·rw[u]at a;rw[d _ X]at s;obtain⟨Q',ai,ao⟩:=H.ob j p ac;rw[s]at ai;cases ai;rcases m.own i1 o1 L E (by rw[Ob.BM]at z;exact z) a with hs|⟨k,pk,Y,l,af,v,hb⟩
    ·have:=ao.lt;omega
    ·rw[<-hb];exact λe=>apart j p Q ac s ak k pk Y l v (.inr af) e.symm
   ·rw[d _ t]at a;rw[u]at s;obtain⟨L',ah,an⟩:=H.ob i o C;rw[a]at ah;cases ah;rcases m.all i2 o2 Q aj s with hs|⟨k,pk,Y,l,v,hb⟩
    ·have:=an.lt;omega
    ·rw[<-hb];exact apart i o L C a U k pk Y l v (.inl z)
   ·rw[d _ t]at a;rw[d _ X]at s;exact H.sep i j o p L Q D C ac z a s
  ·obtain⟨r,I⟩:=S.gl g W;obtain⟨n,hn⟩:=H.gl g W;exact⟨n,ae _ _ hn⟩
 refine⟨M',ax.ren J,al,ae,by have:=hG.next;omega,m.os,m.tape,m.output,m.size,λb hb y=>?_,λi o L x z a=>?_,λj hj hn=>?_,λi o L x a=>?_,λj hj hn=>by rw[d j hj];exact hn⟩
 ·refine m.same b hb λk p Q l hp s=>?_;obtain⟨r,-,B⟩:=S.ob k p l;simp only[r,if_true]at s;exact y _ _ Q B (by rw[Ob.BM];exact hp) s
 ·rcases cases' i o x with⟨i1,o1,E,rfl,rfl⟩|⟨t,C,U⟩
  ·rw[u]at a;rcases m.own i1 o1 L E (by rw[Ob.BM]at z;exact z) a with hs|⟨k,pk,Y,l,af,v,hb⟩
   ·exact .inl hs
   ·obtain⟨r,-,B⟩:=S.ob k pk l;simp only[r,if_true]at v;exact .inr ⟨_,_,Y,B,by rw[Ob.BM];exact af,v,hb⟩
  ·rw[d _ t]at a;exact .inr ⟨i,o,L,C,z,a,rfl⟩
 ·by_cases O:∃i,i.nat<K.next.nat/\K.get i≠none/\ρ i=j
  ·obtain⟨i,r,I,rfl⟩:=O;cases l:K.get i with
   |none=>exact absurd l I
   |some o=>rw[(S.ob i o l).2.2]at hn;cases hn
  ·rw[hG.oth j (λi r I B=>O ⟨i,r,I,B⟩) (.inl hj)];exact hn
 ·rcases cases' i o x with⟨i1,o1,E,rfl,rfl⟩|⟨t,C,U⟩
  ·rw[u]at a;rcases m.all i1 o1 L E a with hs|⟨k,pk,Y,l,v,hb⟩
   ·exact .inl hs
   ·obtain⟨r,-,B⟩:=S.ob k pk l;simp only[r,if_true]at v;exact .inr ⟨_,_,Y,B,v,hb⟩
  ·rw[d _ t]at a;exact .inr ⟨i,o,L,C,a,rfl⟩
def mkF:Hp->List Ob->Hp
 |h,[]=>h
 |h,o::l=>mkF (h.new o) l
def aaZ:∀(l:List Ob) (h:Hp),(mkF h l).next.nat=h.next.nat+l.length
 | [],h=>rfl
 |o::l,h=>by rw[mkF,aaZ l,j!];have:(h.new o).next.nat=h.next.nat+1:=Pos.fD _;omega
def aic:∀(l:List Ob) (h:Hp) (i:Pos),(mkF h l).get i=if h.next.nat<=i.nat/\i.nat<h.next.nat+l.length then l[i.nat - h.next.nat]? else h.get i
 | [],h,i=>by
  rw[if_neg]
  ·rfl
  ·simp only[C!];omega
 |o::l,h,i=>by
  rw[mkF,aic l];have hn:(h.new o).next.nat=h.next.nat+1:=Pos.fD _;rw[hn,j!];by_cases e:i=h.next
  ·subst e;rw[if_neg (by omega),if_pos (by omega),D!];exact h.qM o
  ·have a:i.nat≠h.next.nat:=λq=>e (Pos.yR q);rw[h.jD e];by_cases hi:h.next.nat+1<=i.nat/\i.nat<h.next.nat+1+l.length
   ·rw[if_pos hi,if_pos (by omega),show i.nat - h.next.nat=(i.nat - (h.next.nat+1))+1 by omega,v!]
   ·rw[if_neg hi,if_neg (by omega)]
def aqg:Hp->List (Option Ob)->Hp
 |h,[]=>h
 |h,o::l=>aqg ⟨h.t.set o h.next,h.next.succ⟩ l
def mkO(G:Nat)(os:List (Option Ob)):Hp:=aqg (h0 G) os
def ar6:∀(l:List (Option Ob)) (h:Hp),(aqg h l).next.nat=h.next.nat+l.length
 | [],h=>rfl
 |o::l,h=>by
  rw[aqg,ar6 l,j!];show h.next.succ.nat+_=_;rw[Pos.fD];omega
def avN:∀(l:List (Option Ob)) (h:Hp) (i:Pos),(aqg h l).get i=if h.next.nat<=i.nat/\i.nat<h.next.nat+l.length then(l[i.nat - h.next.nat]?).join else h.get i
 | [],h,i=>by
  rw[if_neg]
  ·rfl
  ·simp only[C!];omega
 |o::l,h,i=>by
  rw[aqg,avN l];show(if h.next.succ.nat<=i.nat/\i.nat<h.next.succ.nat+l.length then(l[i.nat - h.next.succ.nat]?).join else(h.t.set o h.next).get i)=_;rw[Pos.fD,j!];by_cases e:i=h.next
  ·subst e;rw[if_neg (by omega),if_pos (by omega),D!,T.oM];rfl
  ·have a:i.nat≠h.next.nat:=λq=>e (Pos.yR q);rw[T.sU _ e];by_cases hi:h.next.nat+1<=i.nat/\i.nat<h.next.nat+1+l.length
   ·rw[if_pos hi,if_pos (by omega),show i.nat - h.next.nat=(i.nat - (h.next.nat+1))+1 by omega,v!]
   ·rw[if_neg hi,if_neg (by omega)];rfl
def UD(os:List (Option Ob)):(mkO G os).next.nat=G+os.length:=by
 unfold mkO;rw[ar6];show(Pos.of G).nat+_=_;rw[Pos.gG]
def MJ(os:List (Option Ob))(i:Pos):(mkO G os).get i=if G<=i.nat then(os[i.nat - G]?).join else none:=by
 unfold mkO;rw[avN,afO];show(if(Pos.of G).nat<=i.nat/\i.nat<(Pos.of G).nat+os.length then(os[i.nat - (Pos.of G).nat]?).join else none)=_;rw[Pos.gG];by_cases a:G<=i.nat
 ·by_cases b:i.nat<G+os.length
  ·rw[if_pos ⟨a,b⟩,if_pos a]
  ·rw[if_neg (by omega),if_pos a,w! (by omega)];rfl
 ·rw[if_neg (by omega),if_neg a]
def MI:Nat->List Pos->Pos
 |_,[]=>.h
 |0,p::_=>p
 |n+1,_::l=>MI n l
def aqc:∀(n:Nat) (l:List Pos),MI n l=(l[n]?).getD .h
 |n,[]=>by cases n<;>rfl
 |0,_::_=>rfl
 |n+1,_::l=>by rw[MI,aqc n l];rfl
def tau(a:Nat)(l:List Pos)(i:Pos):Pos:=match h! i.nat a with|true=>i|false=>MI (i.nat - a) l
def pV{a:Nat}{l:List Pos}{i:Pos}(h:i.nat<a):tau a l i=i:=by
 unfold tau;rw[show h! i.nat a=true by simpa[d!]using h]
def YP{a:Nat}{l:List Pos}{i p:Pos}(h:a<=i.nat)(b:l[i.nat - a]?=some p):tau a l i=p:=by
 have:h! i.nat a=false:=by
  cases hb:h! i.nat a with
  |false=>rfl
  |true=>
       have:i.nat<a:=by simpa[d!]using hb
       omega
 unfold tau;rw[this];show MI (i.nat - a) l=p;rw[aqc,b];rfl
def V.ahY(ρ σ:Pos->Pos)(v:V):(v.ren ρ).ren σ=v.ren (λi=>σ (ρ i)):=by
 induction v with
 |func fn a b c d=>
  simp only[V.ren,c,d];congr 1;cases fn<;>first|rfl|(simp only[Tn,Pos.OE])
 |iface t v e=>simp only[V.ren,e]
 |agg l e=>simp only[V.ren,e]
 |tuple l e=>simp only[V.ren,e]
 |cons a b c d=>simp only[V.ren,c,d]
 |_=>rfl
def ayU{n:Nat}{ρ σ:Pos->Pos}(h:∀i:Pos,i.nat<n->ρ i=σ i){f:Fn}(a:aii n f=true):Tn ρ f=Tn σ f:=by
 cases f<;>first|rfl|(simp only[Tn];rw[h _ (by rw[Pos.gG];simpa[aii,d!]using a)])
def V.sJ{n:Nat}{ρ σ:Pos->Pos}(h:∀i:Pos,i.nat<n->ρ i=σ i):∀{v:V},v.ins n=true->v.ren ρ=v.ren σ:=by
 intro v;induction v with
 |ptr i o=>intro hi;simp only[V.ren];rw[h i (by simpa[V.ins,d!]using hi)]
 |slice i o m c=>intro hi;simp only[V.ren];rw[h i (by simpa[V.ins,d!]using hi)]
 |map i=>intro hi;simp only[V.ren];rw[h i (by simpa[V.ins,d!]using hi)]
 |func fn a b d e=>
  intro hi;simp only[V.ins,a!]at hi;simp only[V.ren];rw[ayU h hi.1,d hi.2.1,e hi.2.2]
 |iface t v f=>intro hi;simp only[V.ren];rw[f hi]
 |agg l f=>intro hi;simp only[V.ren];rw[f hi]
 |tuple l f=>intro hi;simp only[V.ren];rw[f hi]
 |cons a b d e=>
  intro hi;simp only[V.ins,a!]at hi;simp only[V.ren];rw[d hi.1,e hi.2]
 |_=>intro _;rfl
def alx{n:Nat}:∀{l:List (V×V)},aa6 n l=true->∀v∈l,v.1.ins n=true/\v.2.ins n=true
 | [],_,v,h=>by cases h
 |u::l,h,v,a=>by
  simp only[aa6,a!]at h;rcases R!.1 a with rfl|a
  ·exact h.1
  ·exact alx h.2 v a
def Ob.sJ{n:Nat}{ρ σ:Pos->Pos}(h:∀i:Pos,i.nat<n->ρ i=σ i){o:Ob}(hi:o.ins n=true):o.ren ρ=o.ren σ:=by
 cases o with
 |cells w cs=>simp only[Ob.ren];congr 1;exact i! λv a=>V.sJ h (UI hi v a)
 |map es=>simp only[Ob.ren];congr 1;exact i! λv a=>by rw[V.sJ h (alx hi v a).1,V.sJ h (alx hi v a).2]
 |iter s n=>rfl
 |bytes cs=>simp only[Ob.ren];congr 1;exact i! λv a=>V.sJ h (UI hi v a)
def Ob.ahY(ρ σ:Pos->Pos)(o:Ob):(o.ren ρ).ren σ=o.ren (λi=>σ (ρ i)):=by
 cases o with
 |cells w cs=>simp only[Ob.ren,p!];congr 1;apply i!;intro v _;exact V.ahY ρ σ v
 |map es=>simp only[Ob.ren,p!];congr 1;apply i!;intro v _;simp only[Function.comp,V.ahY]
 |iter s n=>rfl
 |bytes cs=>simp only[Ob.ren,p!];congr 1;apply i!;intro v _;exact V.ahY ρ σ v
def rising(b:Nat):Nat->List Pos->Bool
 |_,[]=>true
 |lo,p::l=>(c! lo p.nat&&h! p.nat b)&&rising b (p.nat+1) l
def arV{b:Nat}:∀{lo:Nat} {l:List Pos},rising b lo l=true->(∀(k:Nat) (p:Pos),l[k]?=some p->lo+k<=p.nat/\p.nat<b)/\∀(k j:Nat) (p q:Pos),l[k]?=some p->l[j]?=some q->k<j->p.nat<q.nat
 |_,[],_=>⟨λk p h=>by simp at h,λk j p q h=>by simp at h⟩
 |lo,p::l,h=>by
  simp only[rising,a!]at h;obtain⟨⟨g,m⟩,n⟩:=h;obtain⟨e,f⟩:=arV n;have i:=Nat.le_of_ble_eq_true g;have d:p.nat<b:=by simpa[d!]using m
  refine⟨λk q c=>?_,λk j q r c hj o=>?_⟩
  ·cases k with
   |zero=>simp at c;subst c;exact⟨by omega,d⟩
   |succ k=>simp at c;obtain⟨a,b⟩:=e k q c;exact⟨by omega,b⟩
  ·cases j with
   |zero=>omega
   |succ j=>
    simp at hj;cases k with
    |zero=>simp at c;subst c;have:=(e j r hj).1;omega
    |succ k=>simp at c;exact f k j q r c hj (by omega)
def auq(n:Nat)(t:Pos->Pos)(K':Hp):Pos->List (Option Ob)->Bool
 |_,[]=>true
 |i,o::l=>(match o with
  |none=>true
  |some x=>x.ins n&&(match K'.get (t i) with|some q=>QD q (x.ren t)|none=>false))&&auq n t K' i.succ l
def aww{n:Nat}{t:Pos->Pos}{K':Hp}:∀{l:List (Option Ob)} {i:Pos},auq n t K' i l=true->∀(k:Nat) (x:Ob),l[k]?=some (some x)->x.ins n=true/\∀j:Pos,j.nat=i.nat+k->K'.get (t j)=some (x.ren t)
 | [],_,_,k,x,c=>by simp at c
 |o::l,i,h,k,x,c=>by
  simp only[auq,a!]at h;cases k with
  |zero=>
   simp at c;subst c;simp only[a!]at h;refine⟨h.1.1,λj hj=>?_⟩;obtain rfl:j=i:=Pos.yR hj;have d:=h.1.2
   split at d
   ·rename_i q e;rw[e,aqw d]
   ·cases d
  |succ k=>
   simp at c;obtain⟨a,b⟩:=aww h.2 k x c;exact⟨a,λj hj=>b j (by rw[Pos.fD];omega)⟩
def vZ(G a:Nat)(os:List (Option Ob))(l:List Pos)(rc:V):R V->Bool
 | .ok r K'=>(kL r (rc.ren (tau a l))&&rc.ins (G+os.length))&&((e! (G+os.length) (a+l.length)&&rising K'.next.nat a l)&&auq (G+os.length) (tau a l) K' (Pos.of G) os)
 | .bad=>false
def Does.comp{f:FuncId}{F:Fun}{a0:List V}{K:Hp}{a:Nat}{os:List (Option Ob)}{l:List Pos}{rc:V}(hF:aG P G f F)(ha:K.next.nat=a)(e:vZ G a os l rc (F a0 K)=true):Does P G f a0 K rc (mkO G os):=by
 subst ha;unfold vZ at e;split at e
 ·rename_i r0 K' e0;simp only[a!]at e;obtain⟨⟨e1,e2⟩,⟨N,e4⟩,e5⟩:=e;have e1:=vX _ _ e1;have N:=r! N;obtain⟨r1,r2⟩:=arV e4;have Z:=aww e5;have hn:=UD (G:=G) os;intro M w cargs B u;refine Opq.mono (λc w' hp=>?_) (hF a0 K r0 K' M w cargs e0 B u);obtain⟨E,I,t,d⟩:=hp;have S:∀g,g<G->g<K.next.nat:=λg O=>by
   rcases k! g K.next.nat with q|q
   ·exact q
   ·obtain⟨n,hn⟩:=B.gl g O;rw[B.fresh (Pos.of g) (by rw[Pos.gG];exact q)]at hn;cases hn
  have s:∀i:Pos,K.next.nat<=i.nat->i.nat<K.next.nat+l.length->∃p,l[i.nat - K.next.nat]?=some p/\tau K.next.nat l i=p:=λi h1 h2=>by
   have:i.nat - K.next.nat<l.length:=by omega
   exact⟨_,n! this,YP h1 (n! this)⟩
  have J:∀i j:Pos,i.nat<K.next.nat+l.length->j.nat<K.next.nat+l.length->tau K.next.nat l i=tau K.next.nat l j->i=j:=λi j hi hj e=>by
   rcases k! i.nat K.next.nat with x|x<;>rcases k! j.nat K.next.nat with y|y
   ·rw[pV x,pV y]at e;exact e
   ·obtain⟨q,D,e2⟩:=s j y hj;rw[pV x,e2]at e;have:=(r1 _ _ D).1;rw[<-e]at this;omega
   ·obtain⟨q,D,e2⟩:=s i x hi;rw[pV y,e2]at e;have:=(r1 _ _ D).1;rw[e]at this;omega
   ·obtain⟨q,D,e2⟩:=s i x hi;obtain⟨r,B,N⟩:=s j y hj;rw[e2,N]at e;rcases Nat.lt_trichotomy (i.nat - K.next.nat) (j.nat - K.next.nat) with z|z|z
    ·have:=r2 _ _ _ _ D B z;rw[e]at this;omega
    ·exact Pos.yR (by omega)
    ·have:=r2 _ _ _ _ B D z;rw[e]at this;omega
  have m:∀i x,(mkO G os).get i=some x->i.nat<G+os.length/\x.ins (G+os.length)=true/\K'.get (tau K.next.nat l i)=some (x.ren (tau K.next.nat l)):=λi x hi=>by
   rw[MJ]at hi;split at hi
   ·rename_i hG;have hk:os[i.nat - G]?=some (some x):=by
     cases h:os[i.nat - G]? with
     |none=>rw[h]at hi;cases hi
     |some y=>rw[h]at hi;cases y with
      |none=>cases hi
      |some y=>cases hi;rfl
    have H:i.nat - G<os.length:=(List.getElem?_eq_some_iff.1 hk).1;obtain⟨p,q⟩:=Z _ _ hk;exact⟨by omega,p,q i (by rw[Pos.gG];omega)⟩
   ·cases hi
  have C:∀i:Pos,i.nat<G+os.length->∀L,E (tau K.next.nat l i)=some L->(if i.nat<G+os.length then E (tau K.next.nat l i) else none)=some L:=λi hi L k=>by rw[if_pos hi];exact k
  refine⟨λi=>if i.nat<G+os.length then E (tau K.next.nat l i) else none,?_,⟨λi o hi=>?_,λi aa=>if_neg (by omega),λi j o p L Q W hi hj Y k hQ=>?_,λg O=>?_⟩,
   ⟨λi L k=>?_,by omega,d.os,d.tape,d.output,d.size,λb hb X=>d.same b hb X,λi o L hi Y k=>?_,λi hi v=>?_,λi o L hi k=>?_,λi hi v=>?_⟩⟩
  ·rw[e1]at I;exact I.oz C e2
  ·obtain⟨a1,a2,a3⟩:=m i o hi;obtain⟨L,k,hO⟩:=t.ob _ _ a3;exact⟨L,C i a1 L k,hO.oz C a2⟩
  ·obtain⟨a1,a2,a3⟩:=m i o hi;obtain⟨b1,b2,b3⟩:=m j p hj;simp only[a1,b1,if_true]at k hQ;exact t.sep _ _ _ _ L Q (λq=>W (J i j (by omega) (by omega) q)) a3 b3 (by rw[Ob.BM];exact Y) k hQ
  ·obtain⟨n,U⟩:=t.gl g O;have:=S g O;refine⟨n,?_⟩;simp only[Pos.gG];rw[if_pos (by omega),pV (by rw[Pos.gG];exact this)];exact U
  ·have H:i.nat<K.next.nat:=by
    rcases k! i.nat K.next.nat with q|q
    ·exact q
    ·rw[B.fresh i q]at k;cases k
   show(if i.nat<G+os.length then E (tau K.next.nat l i) else none)=some L;rw[if_pos (by omega),pV H];exact d.le i L k
  ·obtain⟨a1,a2,a3⟩:=m i o hi;simp only[a1,if_true]at k;exact d.own _ _ L a3 (by rw[Ob.BM];exact Y) k
  ·cases hc:(mkO G os).get i with
   |none=>rfl
   |some x=>
    obtain⟨a1,a2,a3⟩:=m i x hc;rw[pV hi,d.old i hi v]at a3;cases a3
  ·obtain⟨a1,a2,a3⟩:=m i o hi;simp only[a1,if_true]at k;exact d.all _ _ L a3 k
  ·show(if i.nat<G+os.length then E (tau K.next.nat l i) else none)=none;split
   ·rw[pV hi];exact d.none i hi v
   ·rfl
 ·cases e
end
end Go.Vm
