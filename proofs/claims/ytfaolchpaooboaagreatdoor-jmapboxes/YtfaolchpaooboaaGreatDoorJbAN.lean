/- Part of the claim: facts that its last text uses. No conditions. -/
import Derived.Test.YtfaolchpaooboaaGreatDoorJbAK
import Derived.Test.YtfaolchpaooboaaGreatDoorJbAJ
import Derived.Test.YtfaolchpaooboaaGreatDoorJbAI
import Derived.Test.YtfaolchpaooboaaGreatDoorJbAH
import Derived.Test.YtfaolchpaooboaaGreatDoorJbAE
set_option linter.all false
namespace Go.Vm
noncomputable section
variable{P:Program}{G N:Nat}{el:TypeId}{f0:Bool}
def aUd(_:F)(_:Hp):Out:=.bad
theorem sS:lf=10000000000000000000:=rfl
@[congr] theorem aIn{o o':Out}(e:o=o')(k:F→Hp→Out):lK o k=lK o' k:=by rw [e]
@[congr] theorem aNS{o o':Option V}(e:o=o')(k:V→Out):gtO o k=gtO o' k:=by rw [e]
@[congr] theorem aM3{o o':R V}(e:o=o')(k:V→Hp→Out):ak o k=ak o' k:=by rw [e]
@[congr] theorem aM4{o o':A}(e:o=o')(k:Ob→(Pos→V)→Out):Es o k=Es o' k:=by rw [e]
@[congr] theorem aNR{o o':V}(e:o=o')(a b:Out):ifB o a b=ifB o' a b:=by rw [e]
theorem wH(a b:F→Hp→Out)(fr:F)(h:Hp):aC a b fr h=lK (a fr h) b:=(rfl)
theorem uN(fr:F)(h:Hp)(k:F→Hp→Out):lK (.nor fr h) k=k fr h:=(rfl)
theorem Fh(fr:F)(h:Hp)(k:F→Hp→Out):lK (.ret fr h) k=.ret fr h:=(rfl)
theorem Iu(i:Nat)(fr:F)(h:Hp)(k:F→Hp→Out):lK (.ex i fr h) k=.ex i fr h:=(rfl)
theorem sZ(v:V)(k:V→Out):gtO (some v) k=k v:=(rfl)
theorem YJ(v:V)(h:Hp)(k:V→Hp→Out):ak (.ok v h) k=k v h:=(rfl)
theorem Gi(ob:Ob)(mk:Pos→V)(k:Ob→(Pos→V)→Out):Es (some (ob,mk)) k=k ob mk:=(rfl)
theorem yK(a b:Out):ifB (.bool true) a b=a:=(rfl)
theorem vK(a b:Out):ifB (.bool false) a b=b:=(rfl)
theorem X9{p:Prop} [Decidable p](hp:p)(a b:Out):ifB (.bool (decide p)) a b=a:=by rw [decide_eq_true hp];rfl
theorem Yv{p:Prop} [Decidable p](hp:¬p)(a b:Out):ifB (.bool (decide p)) a b=b:=by rw [decide_eq_false hp];rfl
theorem tY(t:Nat)(a b:F→Hp→Out)(fr:F)(h:Hp):bn (.tmp t) a b fr h=gtO (fr.get (Pos.of t)) fun v=>ifB v (a fr h) (b fr h):=(rfl)
def o9(id:Nat)(o:Out):Out:=match o with
 | .ex i fr h=>(match Nat.beq i id with|true=>.nor fr h|false=>.ex i fr h)
 |o=>o
theorem En(id:Nat)(b:F→Hp→Out)(fr:F)(h:Hp):dU id b fr h=o9 id (b fr h):=by unfold dU o9;cases b fr h<;>rfl
theorem Oe(id:Nat)(fr:F)(h:Hp):o9 id (.nor fr h)=.nor fr h:=(rfl)
theorem Oa(id:Nat)(fr:F)(h:Hp):o9 id (.ret fr h)=.ret fr h:=(rfl)
theorem Em(id i:Nat)(fr:F)(h:Hp):o9 id (.ex i fr h)=if i=id then .nor fr h else .ex i fr h:=by
 unfold o9
 split
 ·rename_i hc;cases hc
  split
  ·rename_i hb;rw [if_pos (Nat.eq_of_beq_eq_true hb)]
  ·rename_i hb;rw [if_neg (Nat.ne_of_beq_eq_false hb)]
 ·rename_i hn;exact absurd rfl (hn _ _ _)
theorem Au(m n:Nat)(x:Option V)(fr:F):(T.set x (Pos.of m) fr).get (Pos.of n)=if n=m then x else fr.get (Pos.of n):=by
 by_cases e:n=m
 ·subst e;rw [if_pos rfl,T.gU]
 ·rw [if_neg e,T.iO _ (fun h=>e (Pos.ve h))]
theorem NY{m:Hp→R V}{v:V}{k:Out}{l:List Hp}:chk m v k 0 l=k:=by cases l<;>rfl
theorem YG{m:Hp→R V}{v:V}{k:Out}{n:Nat}:chk m v k n []=k:=by cases n<;>rfl
def Oc(A B:F→Hp→Prop):Out→Prop
 | .nor fr h=>A fr h
 | .ret fr h=>B fr h
 |_=>False
def LS(id:Nat)(C A B:F→Hp→Prop):Out→Prop
 | .nor fr h=>C fr h
 | .ex i fr h=>i=id∧A fr h
 | .ret fr h=>B fr h
 | .bad=>False
theorem lq{id:Nat}{body:F→Hp→Out}(I:Nat→F→Hp→Prop){A B:F→Hp→Prop}{n:Nat}{fr:F}{h:Hp}(hn:n<lf)(hI:I n fr h)
  (step:∀m fr h,I m fr h→LS id (fun fr h=>∃m',m'<m∧I m' fr h) A B (body fr h)):Oc A B (o9 id (eU body lf fr h)):=by
 have key:∀l n fr h,n<l→I n fr h→Oc A B (o9 id (eU body l fr h)):=by
  intro l
  induction l with
  |zero=>intro n fr h hn;omega
  |succ l ih=>
   intro n fr h hn hI
   have hs:=step n fr h hI
   rw [Ak]
   cases e:body fr h with
   |bad=>rw [e] at hs;exact hs.elim
   |nor fr1 h1=>
    rw [e] at hs
    obtain⟨m',hm,hI'⟩:=hs
    exact ih m' fr1 h1 (by omega) hI'
   |ret fr1 h1=>rw [e] at hs;exact hs
   |ex i fr1 h1=>
    rw [e] at hs
    obtain⟨rfl,hA⟩:=hs
    simp only [Em,if_true]
    exact hA
 exact key lf n fr h hn hI
theorem Oc.then{A B:F→Hp→Prop}{o:Out}{k:F→Hp→Out}{Q:Out→Prop}(ho:Oc A B o)(hA:∀fr h,A fr h→Q (k fr h))(hB:∀fr h,B fr h→Q (.ret fr h)):Q (lK o k):=by
 cases o with
 |nor fr h=>exact hA fr h ho
 |ret fr h=>exact hB fr h ho
 |ex i fr h=>exact ho.elim
 |bad=>exact ho.elim
theorem Oc.mono{A B A' B':F→Hp→Prop}{o:Out}(ho:Oc A B o)(hA:∀fr h,A fr h→A' fr h)(hB:∀fr h,B fr h→B' fr h):Oc A' B' o:=by
 cases o with
 |nor fr h=>exact hA fr h ho
 |ret fr h=>exact hB fr h ho
 |ex i fr h=>exact ho.elim
 |bad=>exact ho.elim
def jy(P:Program)(rs:List ResultVar)(Q:V→Hp→Prop)(o:Out):Prop:=∃r h,bD P rs o=.ok r h∧Q r h
theorem jy.ret{rs:List ResultVar}{Q:V→Hp→Prop}{fr:F}{h:Hp}{r:V}{h':Hp}(e:fG P rs fr h (fun vs=>gB vs h)=.ok r h')(hq:Q r h'):jy P rs Q (.ret fr h):=⟨r,h',e,hq⟩
theorem jy.nor{rs:List ResultVar}{Q:V→Hp→Prop}{fr:F}{h:Hp}{r:V}{h':Hp}(e:fG P rs fr h (fun vs=>gB vs h)=.ok r h')(hq:Q r h'):jy P rs Q (.nor fr h):=⟨r,h',e,hq⟩
theorem nG(a b:Int):iK a b=decide (a=b):=by rw [jl];rfl
theorem lu(a b:Int):jv a b=decide (a≤b):=oZ a b
variable{h:Hp}{k:IntKind}{a b:Int}{c:EqC}
theorem jW(k:IntKind):Nat.beq (kix k) (kix k)=true:=by cases k<;>rfl
theorem wrap64_in{n:Int}(h1: -9223372036854775808≤n)(h2:n<9223372036854775808):wrap64 n=n:=by rw [Fb];exact wrap_in h1 h2
theorem JK(h1: -9223372036854775808≤a+b)(h2:a+b<9223372036854775808):aO .add c (.int .i64 a) (.int .i64 b) h=.ok (.int .i64 (a+b)) h:=by
 show fZ .i64 (wrap64 (a+b)) h=_
 rw [wrap64_in h1 h2,fD]
theorem JC(h1: -9223372036854775808≤a - b)(h2:a - b<9223372036854775808):aO .sub c (.int .i64 a) (.int .i64 b) h=.ok (.int .i64 (a - b)) h:=by
 show fZ .i64 (wrap64 (a - b)) h=_
 rw [wrap64_in h1 h2,fD]
theorem JD(h0:b≠0):aO .rem c (.int .i64 a) (.int .i64 b) h=.ok (.int .i64 (a.tmod b)) h:=by
 show(match iK b 0 with|true=>R.bad|false=>fZ .i64 (Int.tmod a b) h)=_
 rw [nG,decide_eq_false h0,fD]
theorem JJ:aO .eql c (.int k a) (.int k b) h=.ok (.bool (decide (a=b))) h:=by
 show(match Nat.beq (kix k) (kix k) with|true=>cO (iK a b) h|false=>.bad)=_
 rw [jW,dF,nG]
theorem JE:aO .neq c (.int k a) (.int k b) h=.ok (.bool (decide (a≠b))) h:=by
 show(match Nat.beq (kix k) (kix k) with|true=>cO (not (iK a b)) h|false=>.bad)=_
 rw [jW,dF,nG];simp
theorem JF:aO .lss c (.int k a) (.int k b) h=.ok (.bool (decide (a<b))) h:=by
 show(match Nat.beq (kix k) (kix k) with|true=>cO (not (jv b a)) h|false=>.bad)=_
 rw [jW,dF,lu,show(!decide (b≤a))=decide (a<b) from by rw [Bool.eq_iff_iff];simp]
theorem JG:aO .leq c (.int k a) (.int k b) h=.ok (.bool (decide (a≤b))) h:=by
 show(match Nat.beq (kix k) (kix k) with|true=>cO (jv a b) h|false=>.bad)=_
 rw [jW,dF,lu]
theorem JH:aO .gtr c (.int k a) (.int k b) h=.ok (.bool (decide (a>b))) h:=by
 show(match Nat.beq (kix k) (kix k) with|true=>cO (not (jv a b)) h|false=>.bad)=_
 rw [jW,dF,lu,show(!decide (a≤b))=decide (a>b) from by rw [Bool.eq_iff_iff];simp]
theorem JI:aO .geq c (.int k a) (.int k b) h=.ok (.bool (decide (a≥b))) h:=by
 show(match Nat.beq (kix k) (kix k) with|true=>cO (jv b a) h|false=>.bad)=_
 rw [jW,dF,lu]
theorem UN(q:Bool):oUn .not (.bool q) h=.ok (.bool (!q)) h:=by show cO (not q) h=_;rw [dF]
theorem Aa(x y:V):Hy (.bool true) x y h=.ok x h:=(rfl)
theorem xZ(x y:V):Hy (.bool false) x y h=.ok y h:=(rfl)
theorem Ag(x:V)(l:V):bM 0 (.tuple (.cons x l)) h=.ok x h:=(rfl)
theorem Af(x y:V)(l:V):bM 1 (.tuple (.cons x (.cons y l))) h=.ok y h:=(rfl)
theorem Ae(x y z:V)(l:V):bM 2 (.tuple (.cons x (.cons y (.cons z l)))) h=.ok z h:=(rfl)
theorem UO:abB (.int k a) (.int k b) h=.ok (.int k (min a b)) h:=by
 show(match jv a b with|true=>R.ok (V.int k a) h|false=>.ok (.int k b) h)=_
 rw [lu]
 by_cases hl:a≤b
 ·rw [decide_eq_true hl,Int.min_eq_left hl]
 ·rw [decide_eq_false hl,Int.min_eq_right (by omega)]
theorem UQ:abC (.int k a) (.int k b) h=.ok (.int k (max a b)) h:=by
 show(match jv b a with|true=>R.ok (V.int k a) h|false=>.ok (.int k b) h)=_
 rw [lu]
 by_cases hl:b≤a
 ·rw [decide_eq_true hl,Int.max_eq_left hl]
 ·rw [decide_eq_false hl,Int.max_eq_right (by omega)]
theorem vk(h1: -9223372036854775808≤a)(h2:a<9223372036854775808):dh .i64 (.int k a) h=.ok (.int .i64 a) h:=by
 show fZ .i64 (wrap64 a) h=_
 rw [wrap64_in h1 h2,fD]
theorem qN(z y:V)(j k:IntKind)(a b:Int):bK el [z,y] 2 [(0,1,.int j a),(1,1,.int k b)] h=.ok (.slice h.next 0 2 (.kn 2)) (h.new (.cells (.rw el true) [.int j a,.int k b])):=(rfl)
theorem YA(d d':TypeDesc)(a b a' b':Int)(k k':IntKind)(hd:iJ d (.int k a)=true)(hd':iJ d' (.int k' b)=true):mZ [(d,0),(d',1)] [.int k a,.int k' b] [.int k a',.int k' b']=some (decide (a=a'∧b=b')):=by
 have h1:dZ (.int k a) (.int k a')=some (decide (a=a')):=by
  show(match Nat.beq (kix k) (kix k) with|true=>some (iK a a')|false=>none)=_
  rw [jW,nG]
 have h2:dZ (.int k' b) (.int k' b')=some (decide (b=b')):=by
  show(match Nat.beq (kix k') (kix k') with|true=>some (iK b b')|false=>none)=_
  rw [jW,nG]
 simp only [mZ,jB,List.getElem?_cons_zero,List.getElem?_cons_succ,hd,hd',h1,h2]
 by_cases e:a=a'<;>by_cases e':b=b'<;>simp [e,e']
theorem vG(a b a' b':Int):UU .eql [((.int .i64),0),((.int .i64),1)] (.agg (.cons (.int .i64 a) (.cons (.int .i64 b) .nil))) (.agg (.cons (.int .i64 a') (.cons (.int .i64 b') .nil))) h=.ok (.bool (decide (a=a'∧b=b'))) h:=by
 show(match mZ _ [.int .i64 a,.int .i64 b] [.int .i64 a',.int .i64 b'] with|some q=>(match BinOp.eql with| .eql=>cO q h| .neq=>cO (not q) h|_=>.bad)|none=>.bad)=_
 rw [YA _ _ _ _ _ _ _ _ rfl rfl]
 exact dF _ _
theorem vF(a b a' b':Int):UU .neq [((.int .i64),0),((.int .i64),1)] (.agg (.cons (.int .i64 a) (.cons (.int .i64 b) .nil))) (.agg (.cons (.int .i64 a') (.cons (.int .i64 b') .nil))) h=.ok (.bool (decide ¬(a=a'∧b=b'))) h:=by
 show(match mZ _ [.int .i64 a,.int .i64 b] [.int .i64 a',.int .i64 b'] with|some q=>(match BinOp.neq with| .eql=>cO q h| .neq=>cO (not q) h|_=>.bad)|none=>.bad)=_
 rw [YA _ _ _ _ _ _ _ _ rfl rfl]
 refine(dF _ _).trans ?_
 congr 2
 by_cases e:a=a'∧b=b'<;>simp [e]
theorem uz(i:Pos)(o off:Nat):aN off (.ptr i o) h=.ok (.ptr i (o+off)) h:=by show bQ (o+off) (fun q=>R.ok (V.ptr i q) h)=_;rw [bf]
theorem ahx{i j:Pos}(h:i.nat≠j.nat):i≠j:=fun e=>h (by rw [e])
theorem nU{i j:Pos}(h:i≠j):i.nat≠j.nat:=fun e=>h (Pos.fU e)
theorem iq(h:Hp)(i:Pos)(o:Option Ob):(h.put i o).get i=o:=h.bC i o
theorem oN(h:Hp){i j:Pos}(hn:j.nat≠i.nat)(o:Option Ob):(h.put i o).get j=h.get j:=h.aY (ahx hn) o
theorem jH(h:Hp)(o:Ob):(h.new o).get h.next=some o:=h.lS o
theorem new_ne(h:Hp){j:Pos}(hn:j.nat≠h.next.nat)(o:Ob):(h.new o).get j=h.get j:=h.gV (ahx hn) o
theorem IZ(h:Hp)(i:Pos)(o:Option Ob):(h.put i o).next=h.next:=(rfl)
theorem amO(h:Hp)(o:Ob):(h.new o).next=h.next.succ:=(rfl)
theorem iF(h:Hp)(o:Ob):(h.new o).next.nat=h.next.nat+1:=Pos.dS _
theorem Dv(h:Hp):aF 0 h=h:=(rfl)
structure Fr (b:Nat) (h h':Hp):Prop where
 next:h.next.nat≤h'.next.nat
 get:∀j,j.nat<b→h'.get j=h.get j
theorem Fr.refl(b:Nat)(h:Hp):Fr b h h:=⟨Nat.le_refl _,fun _ _=>rfl⟩
theorem Fr.trans{b:Nat}{h g f:Hp}(x:Fr b h g)(y:Fr b g f):Fr b h f:=⟨Nat.le_trans x.next y.next,fun j hj=>(y.get j hj).trans (x.get j hj)⟩
theorem Fr.le{b b':Nat}{h h':Hp}(x:Fr b h h')(hb:b'≤b):Fr b' h h':=⟨x.next,fun j hj=>x.get j (Nat.lt_of_lt_of_le hj hb)⟩
theorem Fr.new{b:Nat}{h:Hp}(o:Ob)(hb:b≤h.next.nat):Fr b h (h.new o):=⟨by rw [iF];omega,fun j hj=>new_ne h (by omega) o⟩
theorem Fr.put{b:Nat}{h:Hp}(i:Pos)(o:Option Ob)(hb:b≤i.nat):Fr b h (h.put i o):=⟨Nat.le_refl _,fun j hj=>oN h (by omega) o⟩
structure Sl (b:Nat) (h:Hp) (sz:Nat) (v:V) (n:Nat) (cs:List V):Prop where
 len:cs.length=n*sz
 is:(n=0∧(v=.af∨v=.emp))∨∃i o c wr all,v=.slice i o n c∧i.nat<b∧(h.get i).bind Ob.row=some (wr,all)∧∀k,k<n*sz→all[o+k]?=cs[k]?
variable{b' n sz bt:Nat}{h':Hp}{v x:V}{cs:List V}
theorem Sl.fr{b:Nat}(s:Sl b h sz v n cs)(f:Fr b h h'):Sl b h' sz v n cs:=⟨s.len,s.is.imp id fun⟨i,o,c,wr,all,e,hi,hg,ha⟩=>⟨i,o,c,wr,all,e,hi,by rw [f.get i hi];exact hg,ha⟩⟩
theorem Sl.le{b:Nat}(s:Sl b h sz v n cs)(hb:b≤b'):Sl b' h sz v n cs:=⟨s.len,s.is.imp id fun⟨i,o,c,wr,all,e,hi,r⟩=>⟨i,o,c,wr,all,e,by omega,r⟩⟩
theorem jm{i:Pos}{wr:Wr}{all:List V}(hg:(h.get i).bind Ob.row=some (wr,all))(f:Wr→List V→R V):dL h i f=f wr all:=by
 unfold dL
 cases e:h.get i with
 |none=>rw [e] at hg;cases hg
 |some o=>
  rw [e] at hg
  cases o<;>cases hg<;>rfl
theorem aUz{i:Pos}{wr:Wr}{all:List V}{q:Nat}{x:V}(hg:(h.get i).bind Ob.row=some (wr,all))(hx:all[q]?=some x):aW (.ptr i q) h=.ok x h:=by
 show dL h i _=_
 rw [jm hg,jB,hx]
theorem Sl.length{b:Nat}(s:Sl b h sz v n cs):fH 2 v h'=.ok (.int .i64 n) h':=by
 rcases s.is with⟨rfl,rfl|rfl⟩|⟨i,o,c,wr,all,rfl,_⟩<;>rfl
theorem aUw{i:Pos}{o m:Nat}{c:Cap}{j:IntKind}(hm:m<n):Ad sz (.slice i o n c) (.int j (m:Int)) h=.ok (.ptr i (o+m*sz)) h:=by
 show(match Nat.blt m n with|true=>bQ (o+m*sz) fun q=>R.ok (V.ptr i q) h|false=>.bad)=_
 have:Nat.blt m n=true:=by simpa [Nat.blt_eq] using hm
 rw [this,bf]
theorem Sl.at{b:Nat}(s:Sl b h sz v n cs){m:Nat}(hm:m<n):∃i q,(∀h',Ad sz v (.int .i64 (m:Int)) h'=.ok (.ptr i q) h')∧i.nat<b∧∀h',h'.get i=h.get i→∀f x,f<sz→cs[m*sz+f]?=some x→aW (.ptr i (q+f)) h'=.ok x h':=by
 rcases s.is with⟨rfl,_⟩|⟨i,o,c,wr,all,rfl,hi,hg,ha⟩
 ·omega
 ·refine⟨i,o+m*sz,fun h'=>aUw hm,hi,fun h' he f x hf hx=>?_⟩
  refine aUz (by rw [he];exact hg) ?_
  have hlt:m*sz+f<n*sz:=by
   have h1:m*sz+sz≤n*sz:=by rw [←Nat.succ_mul];exact Nat.mul_le_mul_right sz hm
   omega
  rw [←hx,←ha _ hlt,Nat.add_assoc]
theorem Sl.at1{b:Nat}(s:Sl b h 1 v n cs){m:Nat}(hm:m<n):∃i q x,cs[m]?=some x∧(∀h',Ad 1 v (.int .i64 (m:Int)) h'=.ok (.ptr i q) h')∧i.nat<b∧∀h',h'.get i=h.get i→aW (.ptr i q) h'=.ok x h':=by
 obtain⟨i,q,h1,h2,h3⟩:=s.at hm
 have hl:=s.len
 have hx:cs[m]?=some cs[m]:=List.getElem?_eq_getElem (by omega)
 exact⟨i,q,_,hx,h1,h2,fun h' he=>h3 h' he 0 _ (by omega) (by simp only [Nat.mul_one,Nat.add_zero];exact hx)⟩
theorem yt{all cs:List V}{q m:Nat}(hk:∀f,f<m→all[q+f]?=cs[f]?)(hl:cs.length=m):fP m (eY q all)=some cs:=by
 have hm:∀f,f<m→(all.drop q)[f]?=cs[f]?:=fun f hf=>by rw [List.getElem?_drop];exact hk f hf
 have hle:m≤(all.drop q).length:=by
  rcases Nat.lt_or_ge (all.drop q).length m with hlt|hge
  ·have:=hm _ hlt
   rw [List.getElem?_eq_none (Nat.le_refl _),List.getElem?_eq_getElem (by omega)] at this
   cases this
  ·exact hge
 rw [iT,zD hle]
 congr 1
 apply List.ext_getElem?
 intro f
 rw [List.getElem?_take]
 split
 ·rename_i hf;exact hm f hf
 ·rename_i hf;rw [List.getElem?_eq_none (by omega)]
structure Ow (b:Nat) (h:Hp) (el:TypeId) (sz:Nat) (v:V) (n:Nat) (cs:List V):Prop where
 len:cs.length=n*sz
 is:(n=0∧v=.af)∨∃i,v=.slice i 0 n (.un sz)∧b≤i.nat∧i.nat<h.next.nat∧∃f,h.get i=some (.cells (.rw el f) cs)
theorem Ow.nil(b:Nat)(h:Hp)(el:TypeId)(sz:Nat):Ow b h el sz .af 0 []:=⟨by simp,.inl ⟨rfl,rfl⟩⟩
theorem Ow.sl{b:Nat}(s:Ow b h el sz v n cs):Sl h.next.nat h sz v n cs:=⟨s.len,by
 rcases s.is with⟨rfl,rfl⟩|⟨i,rfl,_,hi,f1,hg⟩
 ·exact .inl ⟨rfl,.inl rfl⟩
 ·exact .inr ⟨i,0,_,.rw el f1,cs,rfl,hi,by rw [hg];rfl,fun k _=>by rw [Nat.zero_add]⟩⟩
theorem Ow.keep{b:Nat}(s:Ow b h el sz v n cs)(hn:h.next.nat≤h'.next.nat)(hg:∀j,b≤j.nat→j.nat<h.next.nat→h'.get j=h.get j):Ow b h' el sz v n cs:=⟨s.len,by
 rcases s.is with⟨rfl,rfl⟩|⟨i,rfl,hb,hi,f1,hq⟩
 ·exact .inl ⟨rfl,rfl⟩
 ·exact .inr ⟨i,rfl,hb,by omega,f1,by rw [hg i hb hi];exact hq⟩⟩
theorem Ow.fr{b c:Nat}(s:Ow b h el sz v n cs)(f:Fr c h h')(hc:h.next.nat≤c):Ow b h' el sz v n cs:=s.keep f.next fun j _ hj=>f.get j (by omega)
theorem Fj(l:List V):fP l.length l=some l:=by rw [zD (Nat.le_refl _)];simp
def dO:V→Option Pos
 | .slice i _ _ _=>some i
 |_=>none
def Sep(v u:V):Prop:=∀i,dO v=some i→dO u≠some i
theorem Sep.nil(u:V):Sep .af u:=fun i h=>by cases h
theorem Sep.symm{u v:V}(h:Sep v u):Sep u v:=fun i a b=>h i b a
theorem uF(z:V)(k:IntKind)(a:Int):bK el [z] 1 [(0,1,.int k a)] h=.ok (.slice h.next 0 1 (.kn 1)) (h.new (.cells (.rw el true) [.int k a])):=(rfl)
theorem JB(z y:V)(j k:IntKind)(a b:Int):oU [z,y] [(0,1,.int j a),(1,1,.int k b)] h=.ok (.agg (.cons (.int j a) (.cons (.int k b) .nil))) h:=(rfl)
theorem uD(z y u w:V):bK el [z,y] 1 [(0,2,.agg (.cons u (.cons w .nil)))] h=.ok (.slice h.next 0 1 (.kn 1)) (h.new (.cells (.rw el true) [u,w])):=(rfl)
theorem Sl.src{b m:Nat}{new:List V}(t:Sl b h sz x m new)(f:Nat→List V→R V):lY sz x h f=f m new:=by
 rcases t.is with⟨rfl,hx⟩|⟨i,o,c,wr,all,rfl,hi,hg,ha⟩
 ·have:new= []:=List.length_eq_zero_iff.1 (by rw [t.len];simp)
  subst this
  rcases hx with rfl|rfl<;>rfl
 ·show dL h i _=_
  rw [jm hg,yt ha t.len]
theorem mY{n:Nat}(hs:n*bt≤140737488355328)(C:List V)(g f:Hp):jI el sz bt n C g f=.ok (.slice g.next 0 n (.un sz)) (f.new (.cells (.rw el false) C)):=by
 unfold jI
 rw [show Nat.ble (Nat.mul n bt) 140737488355328=true from Nat.ble_eq_true_of_le hs]
theorem uI(z:V)(k:IntKind)(a:Int):gJ el [z] 1 [(0,1,.int k a)]=some (.cells (.rw el true) [.int k a],fun p=>.slice p 0 1 (.kn 1)):=(rfl)
theorem qM(z y z' y' u w u' w':V):bK el [z,y,z',y'] 2 [(0,2,.agg (.cons u (.cons w .nil))),(2,2,.agg (.cons u' (.cons w' .nil)))] h=.ok (.slice h.next 0 2 (.kn 2)) (h.new (.cells (.rw el true) [u,w,u',w'])):=(rfl)
structure MapI (es:List (V×V)) (f:Int→Option V):Prop where
 keys:∀p∈es,∃a,p.1=.int .i64 a
 find:∀a,kF (.int .i64 a) es=some (f a)
theorem MapI.nil:MapI [] fun _=>none:=⟨fun _ h=>(by cases h),fun _=>rfl⟩
end
end Go.Vm
namespace Go.Vm
noncomputable section
variable{h h':Hp}{sz n bt:Nat}{v x:V}{cs:List V}{c:EqC}{el:TypeId}
theorem Fq(a b:List Nat):gQ a b=decide (a=b):=by
 induction a generalizing b with
 |nil=>cases b<;>simp [gQ]
 |cons x a ih=>
  cases b with
  |nil=>simp [gQ]
  |cons y b=>
   simp only [gQ]
   by_cases hxy:x=y
   ·subst hxy
    rw [Nat.beq_refl,ih]
    simp
   ·have:Nat.beq x y=false:=by cases hb:Nat.beq x y;rfl;exact absurd (Nat.eq_of_beq_eq_true hb) hxy
    rw [this]
    simp [hxy]
theorem vC(a b:List Nat):aO .eql c (.str a) (.str b) h=.ok (.bool (decide (a=b))) h:=by
 show cO (gQ a b) h=_
 rw [dF,Fq]
theorem vz(a b:List Nat):aO .neq c (.str a) (.str b) h=.ok (.bool (decide (a≠b))) h:=by
 show cO (not (gQ a b)) h=_
 rw [dF,Fq]
 simp
theorem FK(s:List Nat):fH 1 (.str s) h=.ok (.int .i64 (s.length:Int)) h:=by
 show R.ok (V.int .i64 (.ofNat (anb s))) h=_
 rw [X6];rfl
theorem gm{s:List Nat}{m a:Nat}{k:IntKind}(hm:s[m]?=some a):bU (.str s) (.int k (m:Int)) h=.ok (.int .u8 (a:Int)) h:=by
 show(match vH m s with|some b=>R.ok (V.int .u8 (.ofNat b)) h|none=>.bad)=_
 rw [qO,hm];rfl
def bys(s:List Nat):List V:=s.map fun b:Nat=>V.int .u8 (b:Int)
theorem kK(s:List Nat):(bys s).length=s.length:=by simp [bys]
theorem Du(s t:List Nat):bys (s++t)=bys s++bys t:=by simp [bys]
theorem avK(s:List Nat):u8s s=bys s:=by simp [u8s,bys]
theorem sK:∀{s:List Nat},(∀b∈s,b<256)→jd (bys s)=some s
 | [],_=>rfl
 |b::s,hs=>by
  show(match Nat.blt b 256,jd (bys s) with|true,some r=>some (b::r)|_,_=>none)=_
  rw [show Nat.blt b 256=true by rw [Nat.blt_eq];exact hs b (by simp),sK fun b hb=>hs b (by simp [hb])]
theorem vw{b:Nat}{s:List Nat}(t:Sl b h 1 v n (bys s))(hs:∀b∈s,b<256)(hh:∀i,dO v=some i→h'.get i=h.get i):dR v h'=.ok (.str s) h':=by
 have hl:s.length=n:=by have:=t.len;rw [kK] at this;omega
 rcases t.is with⟨rfl,rfl|rfl⟩|⟨i,o,cp,wr,all,rfl,hi,hg,ha⟩
 ·have:s= []:=List.length_eq_zero_iff.1 hl
  subst this;rfl
 ·have:s= []:=List.length_eq_zero_iff.1 hl
  subst this;rfl
 ·show dL h' i (fun _ cs=>(match fP n (eY o cs) with
   |some l=>(match jd l with|some s=>R.ok (V.str s) h'|none=>.bad)
   |none=>.bad))=_
  rw [jm (wr:=wr) (all:=all) (by rw [hh i rfl];exact hg),yt (cs:=bys s) (fun f hf=>ha f (by omega)) (by rw [kK];omega)]
  simp only []
  rw [sK hs]
structure Ch (S:Pos→Prop) (h h':Hp):Prop where
 next:h.next.nat≤h'.next.nat
 get:∀j:Pos,j.nat<h.next.nat→¬S j→h'.get j=h.get j
variable{S S':Pos→Prop}{g:Hp}
theorem Ch.refl(S:Pos→Prop)(h:Hp):Ch S h h:=⟨Nat.le_refl _,fun _ _ _=>rfl⟩
theorem Ch.trans(x:Ch S h g)(y:Ch S' g h')(hs:∀j:Pos,j.nat<h.next.nat→S' j→S j):Ch S h h':=
 ⟨Nat.le_trans x.next y.next,fun j hj hn=>(y.get j (Nat.lt_of_lt_of_le hj x.next) fun q=>hn (hs j hj q)).trans (x.get j hj hn)⟩
theorem Ch.mono(x:Ch S h h')(hs:∀j:Pos,j.nat<h.next.nat→S j→S' j):Ch S' h h':=⟨x.next,fun j hj hn=>x.get j hj fun q=>hn (hs j hj q)⟩
theorem Ch.new(S:Pos→Prop)(h:Hp)(o:Ob):Ch S h (h.new o):=⟨by rw [iF];omega,fun j hj _=>new_ne h (by omega) o⟩
theorem Ch.put(h:Hp){i:Pos}(o:Option Ob)(hi:S i):Ch S h (h.put i o):=⟨Nat.le_refl _,fun j hj hn=>oN h (fun e=>hn (by rw [show j=i from Pos.fU e];exact hi)) o⟩
theorem Ch.fr{b:Nat}(x:Ch S h h')(hb:b≤h.next.nat)(hs:∀j:Pos,j.nat<b→¬S j):Fr b h h':=⟨x.next,fun j hj=>x.get j (by omega) (hs j hj)⟩
theorem Sl.vN{b:Nat}(s:Sl b h sz v n cs){i:Pos}(hi:dO v=some i):i.nat<b:=by
 rcases s.is with⟨_,rfl|rfl⟩|⟨i',o,cp,wr,all,rfl,hi',_⟩
 ·cases hi
 ·cases hi
 ·cases hi;exact hi'
theorem Sl.ch{b:Nat}(s:Sl b h sz v n cs)(x:Ch S h h')(hb:b≤h.next.nat)(hs:∀i,dO v=some i→¬S i):Sl b h' sz v n cs:=⟨s.len,by
 rcases s.is with h0|⟨i,o,cp,wr,all,rfl,hi,hg,ha⟩
 ·exact .inl h0
 ·exact .inr ⟨i,o,cp,wr,all,rfl,hi,by rw [x.get i (by omega) (hs i rfl)];exact hg,ha⟩⟩
theorem Ow.vN{b:Nat}(s:Ow b h el sz v n cs){i:Pos}(hi:dO v=some i):b≤i.nat∧i.nat<h.next.nat:=by
 rcases s.is with⟨_,rfl⟩|⟨i',rfl,hb,hi',_,_⟩
 ·cases hi
 ·cases hi;exact⟨hb,hi'⟩
theorem Ow.ch{b:Nat}(s:Ow b h el sz v n cs)(x:Ch S h h')(hs:∀i,dO v=some i→¬S i):Ow b h' el sz v n cs:=⟨s.len,by
 rcases s.is with h0|⟨i,rfl,hb,hi,f1,hg⟩
 ·exact .inl h0
 ·exact .inr ⟨i,rfl,hb,Nat.lt_of_lt_of_le hi x.next,f1,by rw [x.get i hi (hs i rfl)];exact hg⟩⟩
theorem Ow.cell{b:Nat}(s:Ow b h el sz v n cs):v.cells= [v]∧kT v=true:=by
 rcases s.is with⟨_,rfl⟩|⟨i,rfl,_⟩<;>exact⟨rfl,rfl⟩
theorem Sl.cell{b:Nat}(s:Sl b h sz v n cs):v.cells= [v]∧kT v=true:=by
 rcases s.is with⟨_,rfl|rfl⟩|⟨i,o,cp,wr,all,rfl,_⟩<;>exact⟨rfl,rfl⟩
theorem aFD{b m:Nat}{new:List V}(s:Ow 0 h el sz v n cs)(t:Sl b h sz x m new)(hm:0<m)(hs:(n+m)*bt≤140737488355328):
  ∃v' h',dQ el sz bt v x h=.ok v' h'∧v'=.slice h.next 0 (n+m) (.un sz)∧h'.next=h.next.succ∧Ow 0 h' el sz v' (n+m) (cs++new)∧Ch (fun j=>dO v=some j) h h':=by
 have hl:(cs++new).length=(n+m)*sz:=by rw [List.length_append,s.len,t.len,Nat.add_mul]
 unfold dQ
 rw [t.src]
 cases m with
 |zero=>omega
 |succ m=>
  simp only []
  rcases s.is with⟨rfl,rfl⟩|⟨i,rfl,-,hi,f1,hg⟩
  ·have hc:cs= []:=List.length_eq_zero_iff.1 (by rw [s.len];simp)
   subst hc
   simp only []
   rw [mY (by rw [Nat.zero_add] at hs;exact hs)]
   refine⟨_,_,rfl,by rw [Nat.zero_add],rfl,⟨hl,.inr ⟨h.next,by rw [Nat.zero_add],Nat.zero_le _,by rw [iF];omega,false,jH _ _⟩⟩,Ch.new _ _ _⟩
  ·simp only []
   rw [jm (wr:=.rw el f1) (all:=cs) (by rw [hg];rfl)]
   have h1:fP (n*sz) (eY 0 cs)=some cs:=by rw [iT,List.drop_zero,←s.len,Fj]
   have h2:eY (n*sz) (eY 0 cs)= []:=by rw [iT,iT,List.drop_zero,←s.len,List.drop_length]
   simp only [bf,h1,h2,Nat.beq_refl,mY hs]
   refine⟨_,_,rfl,rfl,rfl,⟨hl,.inr ⟨h.next,rfl,Nat.zero_le _,by rw [iF,IZ];omega,false,jH (h.put i none) _⟩⟩,(Ch.put (S:=fun j=>dO (.slice i 0 n (.un sz))=some j) h none rfl).trans (Ch.new (fun _=>False) _ _) fun _ _ q=>q.elim⟩
theorem xC{new:List V}(s:Ow 0 h el sz v n cs)(hnew:new.length=sz)(hs:(n+1)*bt≤140737488355328):
  ∃v' h',dQ el sz bt v (.slice h.next 0 1 (.kn 1)) (h.new (.cells (.rw el true) new))=.ok v' h'∧v'=.slice h.next.succ 0 (n+1) (.un sz)∧Ow 0 h' el sz v' (n+1) (cs++new)∧Ch (fun j=>dO v=some j) h h'∧h'.next.nat=h.next.nat+2:=by
 have c1:=Ch.new (fun j=>dO v=some j) h (.cells (.rw el true) new)
 have s1:Ow 0 (h.new (.cells (.rw el true) new)) el sz v n cs:=s.ch (Ch.new (fun _=>False) h _) fun _ _ q=>q
 have t1:Sl (h.next.nat+1) (h.new (.cells (.rw el true) new)) sz (.slice h.next 0 1 (.kn 1)) 1 new:=⟨by rw [hnew];simp,.inr ⟨h.next,0,_,.rw el true,new,rfl,by omega,by rw [jH];rfl,fun k _=>by rw [Nat.zero_add]⟩⟩
 obtain⟨v',h',e,e2,e3,o,c2⟩:=aFD (bt:=bt) s1 t1 (by omega) hs
 exact⟨v',h',e,e2,o,c1.trans c2 fun _ _ q=>q,by rw [e3,amO,Pos.dS,Pos.dS]⟩
theorem amx(o:Out):lK o (fun fr h=>.nor fr h)=o:=by cases o<;>rfl
theorem uw(i:Pos)(q:Nat):aP (.ptr i q) h=.ok (.ptr i q) h:=(rfl)
theorem I4(h:Hp)(o:Ob):Hp.put (aF 1 h) h.next (some o)=h.new o:=(rfl)
theorem ajz{i:Pos}{wr:Wr}{l:List V}(hg:h.get i=some (.cells wr l))(q:Nat):aW (.ptr i q) h=(match l[q]? with|some v=>R.ok v h|none=>.bad):=by
 show dL h i (fun _ cs=>match qm q cs with|some v=>R.ok v h|none=>.bad)=_
 rw [jm (wr:=wr) (all:=l) (by rw [hg];rfl),jB]
theorem I5{y:V}:∀{q:Nat} {l:List V},q<l.length→iV q [y] l=some (l.set q y)
 |0,[],h=>absurd h (by simp)
 |0,a::t,_=>rfl
 |q+1,[],h=>absurd h (by simp)
 |q+1,a::t,h=>by
  show Option.casesOn (motive:=fun _=>Option (List V)) (iV q [y] t) none (fun r=>some (a::r))=_
  rw [I5 (q:=q) (l:=t) (by simpa using h)]
  rfl
theorem abz{i:Pos}{t:TypeId}{f:Bool}{l:List V}(hg:h.get i=some (.cells (.rw t f) l)){sz q:Nat}{y:V}(hn:kT y=true)(hl:Nat.beq y.cells.length sz=true):
  cZ sz (.ptr i q) y h=(match iV q y.cells l with|some cs'=>.ok V.undef (h.put i (some (.cells (.rw t f) cs')))|none=>.bad):=by
 unfold cZ
 show dL h i _=_
 rw [jm (wr:=.rw t f) (all:=l) (by rw [hg];rfl),hn,hl]
 rfl
theorem qA{i:Pos}{t:TypeId}{f:Bool}{l:List V}(hg:h.get i=some (.cells (.rw t f) l)){q:Nat}{y:V}(hy:y.cells= [y]∧kT y=true)(hq:q<l.length):cZ 1 (.ptr i q) y h=.ok V.undef (h.put i (some (.cells (.rw t f) (l.set q y)))):=by
 rw [abz hg hy.2 (by rw [hy.1];rfl),hy.1]
 rw [I5 hq]
end
end Go.Vm
