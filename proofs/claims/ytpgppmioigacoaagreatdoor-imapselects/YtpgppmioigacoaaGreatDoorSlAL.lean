/- Part of the value machine, or of a walk by it: lemmas that the claim's last text uses. No conditions. -/
import Derived.Test.YtpgppmioigacoaaGreatDoorSlAK
import Derived.KernelRfl
import Derived.Test.YtpgppmioigacoaaGreatDoorSlAJ
set_option linter.unusedVariables false
set_option linter.unusedSimpArgs false
set_option linter.unnecessarySimpa false
namespace Go.Vm
noncomputable section
variable{h:Hp}{el:TypeId}{bt:Nat}{c:EqC}
theorem wrap_u8{n:Nat}(hn:n<256):IntKind.u8.wrap (n:Int)=(n:Int):=by
 simp [IntKind.wrap,IntKind.signed,IntKind.bits]
 omega
theorem aEV{a b:Nat}(hn:a+b<256):aI .add c (.int .u8 (a:Int)) (.int .u8 (b:Int)) h=.ok (.int .u8 ((a+b:Nat):Int)) h:=by
 show iw .u8 (xq .u8 ((a:Int)+(b:Int))) h=_
 rw [AU,show(a:Int)+(b:Int)=((a+b:Nat):Int) by omega,wrap_u8 hn,fP]
theorem aNV{p:Pos}{n k:Nat}{t:TypeId}{f:Bool}{pre post:List V}{x y:V}(hg:h.get p=some (.cells (.rw t f) (pre++x::post)))(hk:pre.length=k)(hn:k<n)(hp:p.nat<h.next.nat):
  bT el 1 bt (.slice p 0 k (.kn n)) (.slice h.next 0 1 (.kn 1)) (h.new (.cells (.rw el true) [y]))=.ok (.slice p 0 (k+1) (.kn n)) ((h.new (.cells (.rw el true) [y])).put p (some (.cells (.rw t f) (pre++y::post)))):=by
 have hg':(h.new (.cells (.rw el true) [y])).get p=some (.cells (.rw t f) (pre++x::post)):=by rw [new_ne h (by omega)];exact hg
 unfold bT
 have hsrc:∀f:Nat→List V→R V,xw 1 (.slice h.next 0 1 (.kn 1)) (h.new (.cells (.rw el true) [y])) f=f 1 [y]:=fun f=>by
  show dQ _ _ _=_
  rw [dP (wr:=.rw el true) (all:= [y]) (by rw [dD];rfl)]
  rfl
 rw [hsrc]
 simp only []
 rw [dP (wr:=.rw t f) (all:=pre++x::post) (by rw [hg'];rfl)]
 simp only [dB,Nat.zero_add,Nat.mul_one]
 rw [Nat.ble_eq_true_of_le (show k+1≤n by omega),Ut (by simp;omega)]
 simp only []
 rw [show(pre++x::post).set k y=pre++y::post by rw [←hk];simp]
theorem aEw(n:Nat)(z:V):(times n [z]).length=n:=by
 induction n with
 |zero=>rfl
 |succ n ih=>
  show(z::times n [z]).length=n+1
  simp [ih]
theorem auZ{z:V}{n:Nat}(hn:n*bt≤140737488355328):SE el bt [z] (.int .i64 0) (.int .i64 (n:Int)) h=.ok (.slice h.next 0 0 (.kn n)) (h.new (.cells (.rw el true) (times n [z]))):=by
 show(match Nat.ble 0 n,Nat.ble (Nat.mul n bt) 140737488355328 with
  |true,true=>R.ok (V.slice h.next 0 0 (.kn n)) (h.new (.cells (.rw el true) (times n [z])))
  |_,_=>.bad)=_
 rw [Nat.ble_eq_true_of_le (Nat.zero_le n),show Nat.ble (Nat.mul n bt) 140737488355328=true from Nat.ble_eq_true_of_le hn]
def QA(c:Nat):Nat:=if 65≤c∧c≤90 then c+32 else c
def foldM(s:List Nat):List Nat:=s.map QA
theorem aJY{c:Nat}(h:c<256):QA c<256:=by unfold QA;split<;>omega
theorem aH6{s:List Nat}(h:∀c∈s,c<256):∀c∈foldM s,c<256:=fun c hc=>by
 obtain⟨d,hd,rfl⟩:=List.mem_map.1 hc
 exact aJY (h d hd)
theorem azd{p:Pos}{n:Nat}{t:TypeId}{f:Bool}{s:List Nat}{rest:List V}(hg:h.get p=some (.cells (.rw t f) (bys s++rest)))(hs:∀b∈s,b<256):kY (.slice p 0 s.length (.kn n)) h=.ok (.str s) h:=by
 show dQ h p (fun _ cs=>(match gB s.length (fG 0 cs) with
  |some l=>(match qO l with|some s=>R.ok (V.str s) h|none=>.bad)
  |none=>.bad))=_
 rw [dP (wr:=.rw t f) (all:=bys s++rest) (by rw [hg];rfl),ve (cs:=bys s) (fun k hk=>by rw [Nat.zero_add,List.getElem?_append_left (by rw [kS];exact hk)]) (kS s)]
 simp only []
 rw [SH hs]
end
end Go.Vm
namespace Go.Vm
noncomputable section
variable{h h':Hp}{el:TypeId}{bt:Nat}{c:EqC}{P:Program}
theorem fF(n:Nat)(i:Pos)(q:Nat):aI .eql (.ptr n) (.ptr i q) .bY h=.ok (.bool false) h:=(rfl)
theorem ay0(n:Nat)(i:Pos)(q:Nat):aI .neq (.ptr n) (.ptr i q) .bY h=.ok (.bool true) h:=(rfl)
theorem aiz(n:Nat):aI .eql (.ptr n) .bY .bY h=.ok (.bool true) h:=(rfl)
theorem ay2(n:Nat):aI .neq (.ptr n) .bY .bY h=.ok (.bool false) h:=(rfl)
theorem auH{n:Nat}(hn:Nat.beq n 0=false)(i:Pos)(q:Nat):aI .neq (.ptr n) (.ptr i q) (.ptr i q) h=.ok (.bool false) h:=by
 show(match Nat.beq n 0,i.eq i with|false,true=>fM (not (Nat.beq q q)) h|_,_=>.bad)=_
 rw [hn,Pos.eq_self,Nat.beq_refl];rfl
theorem aJU{i:Pos}{wr:Wr}{l:List V}{q:Nat}{v:V}(hg:h.get i=some (.cells wr l))(hq:l[q]?=some v):apN (.ptr i q) h=.ok (.ptr i q) h:=by
 show dQ h i (fun _ cs=>(match AZ q cs with|some _=>R.ok (V.ptr i q) h|none=>.bad))=_
 rw [dP (wr:=wr) (all:=l) (by rw [hg];rfl),nK,hq]
theorem aFm{i:Pos}{t u:TypeId}{l:List V}{q:Nat}{v:V}(hg:h.get i=some (.cells (.rw t true) l))(hq:l[q]?=some v)(hl:liesAt P P.depth t (l.length / P.cellsOf t) q u 1=true):Zl P u (.ptr i q) h=.ok (.ptr i q) h:=by
 show dQ h i (fun wr cs=>(match wr with
  | .rw t full=>(match full,AZ q cs,liesAt P P.depth t (cs.length / P.cellsOf t) q u 1 with
   |true,some _,true=>R.ok (V.ptr i q) h
   |_,_,_=>.bad)
  | .ro=>.bad))=_
 rw [dP (wr:=.rw t true) (all:=l) (by rw [hg];rfl)]
 simp only [nK,hq,hl]
theorem aKu{b n:Nat}{v:V}{s t:List Nat}(o:Ow b h el 1 v n (bys s))(hb:b≤h.next.nat)(hs:(n+t.length)*bt≤140737488355328):
  ∃v' h',bT el 1 bt v (.str t) h=.ok v' h'∧Ow b h' el 1 v' (n+t.length) (bys (s++t))∧Ch (fun j=>aX v=some j) h h'∧(∀j,aX v'=some j→aX v=some j∨h.next.nat≤j.nat):=by
 have hl:(bys (s++t)).length=(n+t.length)*1:=by rw [qo,List.length_append,o.len,kS];omega
 have hsrc:∀f:Nat→List V→R V,xw 1 (.str t) h f=f t.length (bys t):=fun f=>by
  show(match Nat.beq 1 1 with|true=>f t.length (u8s t)|false=>.bad)=_
  rw [azY]
 unfold bT
 rw [hsrc]
 cases t with
 |nil=>
  simp only [List.length_nil,List.append_nil] at*
  rcases o.is with⟨rfl,rfl⟩|⟨i,rfl,hbi,hi,f1,hg⟩
  ·exact⟨_,_,rfl,o,Ch.refl _ _,fun j hj=>(by cases hj)⟩
  ·exact⟨_,_,rfl,o,Ch.refl _ _,fun j hj=>.inl hj⟩
 |cons c t=>
  simp only [List.length_cons]
  rcases o.is with⟨rfl,rfl⟩|⟨i,rfl,hbi,hi,f1,hg⟩
  ·have hc:s= []:=by have:=o.len;rw [kS] at this;exact List.length_eq_zero_iff.1 (by omega)
   subst hc
   simp only []
   rw [vG (by rw [List.length_cons,Nat.zero_add] at hs;exact hs)]
   refine⟨_,_,rfl,⟨hl,.inr ⟨h.next,by simp,hb,by rw [aZ];omega,false,?_⟩⟩,Ch.new _ _ _,fun j hj=>by cases hj;exact .inr (Nat.le_refl _)⟩
   rw [List.nil_append];exact dD _ _
  ·simp only []
   rw [dP (wr:=.rw el f1) (all:=bys s) (by rw [hg];rfl)]
   have hn:(bys s).length=n*1:=o.len
   have h1:gB (n*1) (fG 0 (bys s))=some (bys s):=by rw [jT,List.drop_zero,←hn,aeB]
   have h2:fG (n*1) (fG 0 (bys s))= []:=by rw [jT,jT,List.drop_zero,←hn,List.drop_length]
   simp only [dB,h1,h2,Nat.beq_refl]
   rw [vG (by rw [List.length_cons] at hs;exact hs)]
   refine⟨_,_,rfl,⟨hl,.inr ⟨h.next,rfl,hb,by rw [aZ,jr];omega,false,?_⟩⟩,(Ch.put (S:=fun j=>aX (.slice i 0 n (.un 1))=some j) h none rfl).trans (Ch.new (fun _=>False) _ _) fun _ _ q=>q.elim,fun j hj=>by cases hj;exact .inr (Nat.le_refl _)⟩
   rw [qo];exact dD (h.put i none) _
theorem at7{i:Pos}{t:TypeId}{f:Bool}{s:List Nat}(hg:h.get i=some (.cells (.rw t f) (bys s)))(hs:∀b∈s,b<256)(hl:s.length≤9223372036854775807)(h0:s≠ []):
  H7 t (.ptr i 0) (.int .i64 (s.length:Int)) h=.ok (.str s) (h.put i (some (.cells .ro (bys s)))):=by
 obtain⟨m,hm⟩:∃m,s.length=m+1:=by
  cases s with
  |nil=>exact absurd rfl h0
  |cons a l=>exact⟨l.length,rfl⟩
 rw [hm]
 show dQ h i (fun wr cs=>(match wr with
   | .rw t' _=>(match Nat.beq t' t with
    |true=>(match gB (m+1) (fG 0 cs) with
     |some l=>(match qO l with
      |some s=>(match Nat.ble s.length 9223372036854775807 with|true=>R.ok (V.str s) (h.put i (some (.cells .ro cs)))|false=>.bad)
      |none=>.bad)
     |none=>.bad)
    |false=>.bad)
   | .ro=>.bad))=_
 rw [dP (wr:=.rw t f) (all:=bys s) (by rw [hg];rfl)]
 simp only [Nat.beq_refl]
 rw [ve (cs:=bys s) (fun k hk=>by rw [Nat.zero_add]) (by rw [kS,hm])]
 simp only []
 rw [SH hs]
 simp only []
 rw [Nat.ble_eq_true_of_le hl]
end
end Go.Vm
namespace Go.Vm
noncomputable section
variable{h:Hp}{el:TypeId}{c:EqC}
theorem akw{a b:Int}(h1: -9223372036854775808≤a*b)(h2:a*b<9223372036854775808):aI .mul c (.int .i64 a) (.int .i64 b) h=.ok (.int .i64 (a*b)) h:=by
 show iw .i64 (wrap64 (a*b)) h=_
 rw [wrap64_in h1 h2,fP]
theorem au7{a b:Int}(h0:b≠0)(h1: -9223372036854775808≤a.tdiv b)(h2:a.tdiv b<9223372036854775808):aI .quo c (.int .i64 a) (.int .i64 b) h=.ok (.int .i64 (a.tdiv b)) h:=by
 show(match oq b 0 with|true=>R.bad|false=>iw .i64 (wrap64 (Int.tdiv a b)) h)=_
 rw [Ba,decide_eq_false h0]
 simp only []
 rw [wrap64_in h1 h2,fP]
theorem aeW:apR .aG h=.ok (.int .i64 0) h:=(rfl)
theorem WO:aY 2 .aG h=.ok (.int .i64 0) h:=(rfl)
theorem aEX{n:Nat}(hn:n≤140737488355328):ae2 el [.int .i64 (n:Int)] h=.ok (.slice h.next 0 n (.un 1)) (h.new (.cells (.rw el false) [])):=by
 show(match Nat.ble n 140737488355328 with
     |true=>R.ok (V.slice h.next 0 n (.un 1)) (h.new (.cells (.rw el false) []))
     |false=>.bad)=_
 rw [Nat.ble_eq_true_of_le hn]
theorem aCV(p:Pos)(n:Nat):eX 1 (.slice p 0 n (.un 1)) none (some (.int .i64 0)) none h=.ok (.slice p 0 0 (.un 1)) h:=by
 show(match Nat.ble 0 n,Nat.ble 0 0,Nat.beq 1 1 with
  |true,true,true=>R.ok (V.slice p 0 0 (.un 1)) h
  |_,_,_=>R.bad)=_
 rw [Nat.ble_eq_true_of_le (Nat.zero_le n)]
theorem aCY(p:Pos)(o n:Nat)(k:Cap):amQ 1 (.slice p o n k) .aG h=.ok (.int .i64 0) h:=by
 show(match Nat.ble 0 n with|true=>R.ok (V.int .i64 (.ofNat 0)) h|false=>.bad)=_
 rw [Nat.ble_eq_true_of_le (Nat.zero_le n)];rfl
theorem aAV{m:Hp→R V}{v:V}{k:Out}{g g1 g' g1':Hp}(hm:m g=.ok v g')(hm1:m g1=.ok v g1')(hv:eqV v v=true):chk m v k 2 [g,g1]=k:=by
 show(match m g with| .ok v' _=>(match eqV v v' with|true=>chk m v k 1 [g1]|false=>.bad)| .bad=>.bad)=_
 rw [hm]
 simp only [hv]
 exact zo hm1 hv
def dV(sep:List Nat):List (List Nat)→List Nat
 | []=> []
 |a::r=>(match r with| []=>a|_::_=>a++sep++dV sep r)
def zT(sep:List Nat)(l:List (List Nat)):List Nat:=(l.map fun a=>sep++a).flatten
theorem Dp(sep a:List Nat):∀r,dV sep (a::r)=a++zT sep r
 | []=>by simp [dV,zT]
 |b::r=>by
  show a++sep++dV sep (b::r)=_
  rw [Dp sep b r]
  simp [zT]
theorem am5(sep:List Nat)(l:List (List Nat))(a:List Nat):zT sep (l++ [a])=zT sep l++(sep++a):=by simp [zT]
def iO(l:List (List Nat)):Nat:=(l.map List.length).sum
theorem aCE(l:List (List Nat))(a:List Nat):iO (l++ [a])=iO l+a.length:=by simp [iO]
theorem amC(l:List (List Nat))(k:Nat):iO (l.take k)≤iO l:=by
 have e:iO l=iO (l.take k)+iO (l.drop k):=by
  unfold iO
  rw [←List.sum_append,←List.map_append,List.take_append_drop]
 omega
theorem ae8(sep:List Nat)(l:List (List Nat)):(zT sep l).length=iO l+sep.length*l.length:=by
 induction l with
 |nil=>simp [zT,iO]
 |cons a l ih=>simp [zT,iO] at ih⊢;rw [ih,Nat.mul_succ];omega
end
end Go.Vm

namespace Go.Vm
theorem vmL:type_of% @Y1∧type_of% @N8∧type_of% @arl∧type_of% @aua∧type_of% @akG∧type_of% @aqk∧type_of% @tX∧type_of% @akN∧type_of% @avw∧type_of% @arS∧type_of% @ap3∧type_of% @ap4∧type_of% @aAY∧type_of% @av8∧type_of% @av7∧type_of% @aql∧type_of% @Nat.zero_ne_one∧type_of% @Nat.one_ne_zero∧type_of% @FK∧type_of% @aaR∧type_of% @avd∧type_of% @au8∧type_of% @au9∧type_of% @ava∧type_of% @avb∧type_of% @avc∧type_of% @aAf∧type_of% @amL∧type_of% @aiy∧type_of% @amP∧type_of% @amO∧type_of% @amN∧type_of% @aAh∧type_of% @aAi∧type_of% @acR∧type_of% @aeV∧type_of% @au6∧type_of% @Y9∧type_of% @UC∧type_of% @aeZ∧type_of% @sS∧type_of% @au2∧type_of% @jW∧type_of% @akO∧type_of% @aAW∧type_of% @ann∧type_of% @acV∧type_of% @Y8∧type_of% @ar4∧type_of% @Bool.not_true∧type_of% @Bool.not_false:=
 ⟨@Y1,@N8,@arl,@aua,@akG,@aqk,@tX,@akN,@avw,@arS,@ap3,@ap4,@aAY,@av8,@av7,@aql,@Nat.zero_ne_one,@Nat.one_ne_zero,@FK,@aaR,@avd,@au8,@au9,@ava,@avb,@avc,@aAf,@amL,@aiy,@amP,@amO,@amN,@aAh,@aAi,@acR,@aeV,@au6,@Y9,@UC,@aeZ,@sS,@au2,@jW,@akO,@aAW,@ann,@acV,@Y8,@ar4,@Bool.not_true,@Bool.not_false⟩
theorem vsL:type_of% @aeY∧type_of% @aeX∧type_of% @aeU∧type_of% @acQ∧type_of% @Nat.zero_add∧type_of% @auC:=
 ⟨@aeY,@aeX,@aeU,@acQ,@Nat.zero_add,@auC⟩
theorem vpL:(∀{α:Type} (a b:α),(some a).getD b=a)∧(∀{α:Type} (b:α),(none:Option α).getD b=b)∧(∀{α:Type} (a:α),(some a).isSome=true)∧(∀{α:Type},(none:Option α).isSome=false):=
 ⟨fun _ _=>rfl,fun _=>rfl,fun _=>rfl,rfl⟩
theorem vqL:(∀{α:Type} (a b:α),(a≠b)=¬(a=b))∧(∀h:Decidable True,@decide True h=true)∧(∀h:Decidable False,@decide False h=false)∧((¬True)=False)∧((¬False)=True):=
 ⟨fun _ _=>rfl,fun h=>decide_true h,fun h=>decide_false h,propext not_true,not_false_eq_true⟩
end Go.Vm

namespace Go.Vm
noncomputable section
variable{P:Program}{G:Nat}
def ge(n:Nat)(fr:F):Option V:=T.get fr (Pos.of n)
def ss(n:Nat)(v:V)(fr:F):F:=T.set (some v) (Pos.of n) fr
def rM(d s:Nat)(fr:F)(h:Hp):Out:=gtO (T.get fr (Pos.of s)) fun v=>.nor (T.set (some v) (Pos.of d) fr) h
def rC(d:Nat)(c:V)(fr:F)(h:Hp):Out:=.nor (T.set (some c) (Pos.of d) fr) h
def r1(d s:Nat)(f:V→Hp→R V)(fr:F)(h:Hp):Out:=gtO (T.get fr (Pos.of s)) fun v=>aA (f v h) fun w g=>.nor (T.set (some w) (Pos.of d) fr) g
def r2(d a b:Nat)(f:V→V→Hp→R V)(fr:F)(h:Hp):Out:=gtO (T.get fr (Pos.of a)) fun u=>gtO (T.get fr (Pos.of b)) fun v=>aA (f u v h) fun w g=>.nor (T.set (some w) (Pos.of d) fr) g
theorem vzL:(∀n fr,ge n fr=T.get fr (Pos.of n))∧(∀n v fr,ss n v fr=T.set (some v) (Pos.of n) fr)∧(∀d s fr h,rM d s fr h=gtO (T.get fr (Pos.of s)) fun v=>.nor (T.set (some v) (Pos.of d) fr) h)∧
  (∀d c fr h,rC d c fr h=.nor (T.set (some c) (Pos.of d) fr) h)∧(∀d s f fr h,r1 d s f fr h=gtO (T.get fr (Pos.of s)) fun v=>aA (f v h) fun w g=>.nor (T.set (some w) (Pos.of d) fr) g)∧
  (∀d a b f fr h,r2 d a b f fr h=gtO (T.get fr (Pos.of a)) fun u=>gtO (T.get fr (Pos.of b)) fun v=>aA (f u v h) fun w g=>.nor (T.set (some w) (Pos.of d) fr) g):=
 ⟨fun _ _=>rfl,fun _ _ _=>rfl,fun _ _ _ _=>rfl,fun _ _ _ _=>rfl,fun _ _ _ _ _=>rfl,fun _ _ _ _ _ _=>rfl⟩
def kp(l:List Nat)(t:Nat):Bool:=FN t l
def kZ:List (FuncId×Fun)→FuncId→Option Fun
 | [],_=>none
 |(g,F)::l,f=>(match Nat.beq f g with|true=>some F|false=>kZ l f)
def aP9:Nat→Cls
 |0=>.pure
 |1=>.alloc
 |2=>.heavy
 |n+3=>.read n
def fO:List Nat→Plan
 | []=> []
 |n::l=>(n / 16,aP9 (n % 16))::fO l
def plL:List (Nat×List Nat×Plan)→cO
 | [],_=>none
 |(g,m,p)::l,f=>(match Nat.beq f g with|true=>some (m,p)|false=>plL l f)
theorem bH:∀f F,kZ [] f=some F→aJ P G f F:=fun _ _ h=>by cases h
theorem aW{g:FuncId}{F:Fun}{l:List (FuncId×Fun)}(h1:aJ P G g F)(h2:∀f F,kZ l f=some F→aJ P G f F):∀f F',kZ ((g,F)::l) f=some F'→aJ P G f F':=aS h1 h2
theorem vvA:type_of% vmL∧type_of% vpL∧type_of% vsL∧type_of% vqL∧type_of% vzL:=⟨vmL,vpL,vsL,vqL,vzL⟩
theorem qS0{p:Prop}(h:p:=by simp only [vvA,Nat.reduceEqDiff,reduceCtorEq,↓reduceIte]):p:=h
theorem qS2{p q:Prop}(f:q)(h:q→p:=by intro f;simp only [vvA,Nat.reduceEqDiff,reduceCtorEq,↓reduceIte,f]):p:=h f
theorem qS1{p:Prop}(h:p:=by simp only [vvA,Nat.reduceEqDiff,reduceCtorEq,↓reduceIte]<;>rfl):p:=h
theorem qS3{p q:Prop}(f:q)(h:q→p:=by intro f;simp only [vvA,Nat.reduceEqDiff,reduceCtorEq,↓reduceIte,f]<;>rfl):p:=h f
end
end Go.Vm
namespace Go.Vm
noncomputable section
variable{P:Program}{G N:Nat}{keep:Nat→Bool}{e:FuncId→Option Fun}
def gone(dr:List Nat):Code→Bool
 | .region id _ _=>FN id dr
 | .seq a _=>gone dr a
 | .cond _ a b=>gone dr a&&gone dr b
 | .block _ b=>gone dr b
 | .loop b=>gone dr b
 | .scope b=>gone dr b
 |_=>false
def FP(dr:List Nat):Code→Code
 | .region id ops d=>(match FN id dr with|true=>.refuse "" |false=>.region id ops d)
 | .seq a b=>(match gone dr a with|true=>.refuse "" |false=>.seq (FP dr a) (FP dr b))
 | .cond c a b=>(match gone dr a&&gone dr b with|true=>.refuse "" |false=>.cond c (FP dr a) (FP dr b))
 | .block id b=>(match gone dr b with|true=>.refuse "" |false=>.block id (FP dr b))
 | .loop b=>(match gone dr b with|true=>.refuse "" |false=>.loop (FP dr b))
 | .scope b=>(match gone dr b with|true=>.refuse "" |false=>.scope (FP dr b))
 |c=>c
theorem Gv(hm:P.follows .mixedOrders=true)(hE:∀f F,e f=some F→aJ P G f F)(dr:List Nat)(pl:cO)(lf:Nat):(c:Code)→codeOk G N c=true→eF P keep G N c (lS P G N keep e pl lf (FP dr c))
 | .skip,h=>eG hm hE pl lf _ h
 | .label _,h=>eG hm hE pl lf _ h
 | .region id ops d,h=>by
  unfold FP
  split
  ·exact .bad
  ·exact eG hm hE pl lf _ h
 | .seq a b,hc=>by
  unfold FP
  split
  ·exact .bad
  ·simp only [codeOk,Bool.and_eq_true] at hc;exact .seq (Gv hm hE dr pl lf a hc.1) (Gv hm hE dr pl lf b hc.2)
 | .cond c a b,hc=>by
  unfold FP
  split
  ·exact .bad
  ·simp only [codeOk,Bool.and_eq_true] at hc
   simp only [lS,aAS]
   refine .cond (fun g hg=>?_) (Gv hm hE dr pl lf a hc.2.1) (Gv hm hE dr pl lf b hc.2.2)
   subst hg
   simpa [Nat.blt_eq] using hc.1
 | .block id b,hc=>by
  unfold FP
  split
  ·exact .bad
  ·exact .block (Gv hm hE dr pl lf b hc)
 | .loop b,hc=>by
  unfold FP
  split
  ·exact .bad
  ·exact .loop (Gv hm hE dr pl lf b hc) lf
 | .scope b,hc=>by
  unfold FP
  split
  ·exact .bad
  ·exact .scope (Gv hm hE dr pl lf b hc)
 | .exit _,h=>eG hm hE pl lf _ h
 | .ret,h=>eG hm hE pl lf _ h
 | .goto _,_=>.bad
 | .rangeFunc ..,_=>.bad
 | .refuse _,_=>.bad
def zz:F→Hp→Out:=fun _ _=>.bad
theorem prX(hm:P.follows .mixedOrders=true){f:FuncId}{fn:Func}{N:Nat}{rs:List ResultVar}{ks:List Nat}{D:F→Hp→Out}{l:List (FuncId×Fun)}(dr:List Nat)(pl:List (Nat×List Nat×Plan))(hE:∀f F,kZ l f=some F→aJ P G f F)(hf:P.funcs[f]?=some fn)
  (ho:atM G fn=true:=by kernel_rfl) (hD:lS P G N (kp ks) (kZ l) (plL pl) lf (FP dr (codeOf fn))=D:=by kernel_rfl) (hr:(fn.ntmps,fn.results.toList)=(N,rs):=by kernel_rfl) (hb:fn.body=some (codeOf fn):=by kernel_rfl):aJ P G f (bG P (kp ks) N rs D):=by
 cases hr
 unfold atM at ho
 rw [hb] at ho
 simp only [Bool.and_eq_true,Bool.not_eq_true'] at ho
 rw [←hD]
 exact aAX hf ho.2 hb (Gv hm hE dr (plL pl) lf _ ho.1)
end
end Go.Vm

namespace Go.Vm
noncomputable section
variable{P:Program}{G:Nat}
def SK(ρ:Pos→Pos):Fn→Fn
 | .yield k=>.yield (ρ (Pos.of k)).nat
 | .func f=>.func f
 | .method n=>.method n
 | .methodOf t n=>.methodOf t n
 | .via t p f b=>.via t p f b
def ahQ(n:Nat):Fn→Bool
 | .yield k=>Nat.blt k n
 | .func _=>true
 | .method _=>true
 | .methodOf _ _=>true
 | .via _ _ _ _=>true
def V.ren(ρ:Pos→Pos):V→V
 | .bool b=>.bool b
 | .int k n=>.int k n
 | .str s=>.str s
 | .ptr i o=>.ptr (ρ i) o
 | .bY=>.bY
 | .slice i o n c=>.slice (ρ i) o n c
 | .aG=>.aG
 | .emp=>.emp
 | .map i=>.map (ρ i)
 | .jQ=>.jQ
 | .func fn a b=>.func (SK ρ fn) (a.ren ρ) (b.ren ρ)
 | .gG=>.gG
 | .iface t v=>.iface t (v.ren ρ)
 | .oJ=>.oJ
 | .agg l=>.agg (l.ren ρ)
 | .tuple l=>.tuple (l.ren ρ)
 | .nil=>.nil
 | .cons a b=>.cons (a.ren ρ) (b.ren ρ)
def V.ins(n:Nat):V→Bool
 | .bool _=>true
 | .int _ _=>true
 | .str _=>true
 | .ptr i _=>Nat.blt i.nat n
 | .bY=>true
 | .slice i _ _ _=>Nat.blt i.nat n
 | .aG=>true
 | .emp=>true
 | .map i=>Nat.blt i.nat n
 | .jQ=>true
 | .func fn a b=>ahQ n fn&&(a.ins n&&b.ins n)
 | .gG=>true
 | .iface _ v=>v.ins n
 | .oJ=>true
 | .agg l=>l.ins n
 | .tuple l=>l.ins n
 | .nil=>true
 | .cons a b=>a.ins n&&b.ins n
def Ob.ren(ρ:Pos→Pos):Ob→Ob
 | .cells w cs=>.cells w (cs.map (V.ren ρ))
 | .map es=>.map (es.map fun p=>(p.1.ren ρ,p.2.ren ρ))
 | .iter s n=>.iter s n
 | .bytes cs=>.bytes (cs.map (V.ren ρ))
def insL(n:Nat):List V→Bool
 | []=>true
 |v::l=>v.ins n&&insL n l
def aaX(n:Nat):List (V×V)→Bool
 | []=>true
 |p::l=>(p.1.ins n&&p.2.ins n)&&aaX n l
def Ob.ins(n:Nat):Ob→Bool
 | .cells _ cs=>insL n cs
 | .map es=>aaX n es
 | .iter _ _=>true
 | .bytes cs=>insL n cs
theorem UJ{n:Nat}:∀{l:List V},insL n l=true→∀v∈l,v.ins n=true
 | [],_,v,h=>by cases h
 |u::l,h,v,hv=>by
  simp only [insL,Bool.and_eq_true] at h
  rcases List.mem_cons.1 hv with rfl|hv
  ·exact h.1
  ·exact UJ h.2 v hv
theorem V.nJ(ρ:Pos→Pos)(v:V):(v.ren ρ).isRow=v.isRow:=by cases v<;>rfl
theorem Ob.Di(ρ:Pos→Pos)(o:Ob):(o.ren ρ).own=o.own:=by cases o<;>rfl
theorem arQ(ρ:Pos→Pos)(x y:V):iR (x.ren ρ) (y.ren ρ)=iR x y:=by cases x<;>cases y<;>rfl
section
variable{M N:Mp}{ρ:Pos→Pos}
theorem yE.ren(hN:∀i L,N i=some L→M (ρ i)=some L){f g:Fn}(h:yE N f g):yE M (SK ρ f) g:=by
 cases f<;>first|exact h|(obtain⟨L,a,b⟩:=h;exact⟨L,by rw [Pos.Uz];exact hN _ _ a,b⟩)
theorem yE.nX{n:Nat}(hN:∀i,i.nat<n→∀L,M (ρ i)=some L→N i=some L){f g:Fn}(hi:ahQ n f=true)(h:yE M (SK ρ f) g):yE N f g:=by
 cases f<;>first|exact h|(obtain⟨L,a,b⟩:=h;exact⟨L,hN _ (by rw [Pos.gU];simpa [ahQ,Nat.blt_eq] using hi) L (by rw [Pos.Uz] at a;exact a),b⟩)
theorem Rep.ren(hN:∀i L,N i=some L→M (ρ i)=some L){v:V}:∀{l:List Value},Rep N v l→Rep M (v.ren ρ) l:=by
 induction v with
 |ptr i o=>rintro l ⟨L,h,e⟩;exact⟨L,hN _ _ h,e⟩
 |slice i o n c=>rintro l ⟨L,k,h,hc,e⟩;exact⟨L,k,hN _ _ h,hc,e⟩
 |map i=>rintro l ⟨L,h,e⟩;exact⟨L,hN _ _ h,e⟩
 |func fn a b iha ihb=>rintro l ⟨f,x,y,q,p,h,g,e⟩;exact⟨f,x,y,q.ren hN,⟨by rw [V.nJ];exact p.1,by rw [V.nJ];exact p.2⟩,iha h,ihb g,e⟩
 |iface t v ih=>rintro l ⟨x,p,h,e⟩;exact⟨x,by rw [V.nJ];exact p,ih h,e⟩
 |agg a ih=>rintro l ⟨x,p,h,e⟩;exact⟨x,by rw [V.nJ];exact p,ih h,e⟩
 |tuple a ih=>rintro l ⟨x,p,h,e⟩;exact⟨x,by rw [V.nJ];exact p,ih h,e⟩
 |cons a b iha ihb=>rintro l ⟨x,xs,q,h,p,g,e⟩;exact⟨x,xs,by rw [V.nJ];exact q,iha h,by rw [V.nJ];exact p,ihb g,e⟩
 |_=>intro l h;exact h
theorem Rep.nX{n:Nat}(hN:∀i,i.nat<n→∀L,M (ρ i)=some L→N i=some L){v:V}:∀{l:List Value},v.ins n=true→Rep M (v.ren ρ) l→Rep N v l:=by
 induction v with
 |ptr i o=>rintro l hi ⟨L,h,e⟩;exact⟨L,hN _ (by simpa [V.ins,Nat.blt_eq] using hi) _ h,e⟩
 |slice i o n c=>rintro l hi ⟨L,k,h,hc,e⟩;exact⟨L,k,hN _ (by simpa [V.ins,Nat.blt_eq] using hi) _ h,hc,e⟩
 |map i=>rintro l hi ⟨L,h,e⟩;exact⟨L,hN _ (by simpa [V.ins,Nat.blt_eq] using hi) _ h,e⟩
 |func fn a b iha ihb=>
  rintro l hi ⟨f,x,y,q,p,h,g,e⟩
  simp only [V.ins,Bool.and_eq_true] at hi
  rw [V.nJ,V.nJ] at p
  exact⟨f,x,y,q.nX hN hi.1,p,iha hi.2.1 h,ihb hi.2.2 g,e⟩
 |iface t v ih=>rintro l hi ⟨x,p,h,e⟩;rw [V.nJ] at p;exact⟨x,p,ih hi h,e⟩
 |agg a ih=>rintro l hi ⟨x,p,h,e⟩;rw [V.nJ] at p;exact⟨x,p,ih hi h,e⟩
 |tuple a ih=>rintro l hi ⟨x,p,h,e⟩;rw [V.nJ] at p;exact⟨x,p,ih hi h,e⟩
 |cons a b iha ihb=>
  rintro l hi ⟨x,xs,q,h,p,g,e⟩
  simp only [V.ins,Bool.and_eq_true] at hi
  rw [V.nJ] at p q
  exact⟨x,xs,q,iha hi.1 h,p,ihb hi.2 g,e⟩
 |_=>intro l _ h;exact h
theorem Rp.ren(hN:∀i L,N i=some L→M (ρ i)=some L){v:V}{c:Value}(h:Rp N v c):Rp M (v.ren ρ) c:=⟨by rw [V.nJ];exact h.1,h.2.ren hN⟩
theorem Rp.nX{n:Nat}(hN:∀i,i.nat<n→∀L,M (ρ i)=some L→N i=some L){v:V}{c:Value}(hi:v.ins n=true)(h:Rp M (v.ren ρ) c):Rp N v c:=⟨by rw [←V.nJ ρ];exact h.1,h.2.nX hN hi⟩
theorem bZ.nX{n:Nat}(hN:∀i,i.nat<n→∀L,M (ρ i)=some L→N i=some L):∀{vs:List V} {l:List Value},insL n vs=true→bZ M (vs.map (V.ren ρ)) l→bZ N vs l
 | [],_,_,h=>h
 |v::vs,_,hi,⟨x,xs,h,g,e⟩=>by
  simp only [insL,Bool.and_eq_true] at hi
  exact⟨x,xs,h.nX hN hi.1,bZ.nX hN hi.2 g,e⟩
theorem jw.ren(hN:∀i L,N i=some L→M (ρ i)=some L):∀{es:List (V×V)} {l:List MapEntry},jw N es l→jw M (es.map fun p=>(p.1.ren ρ,p.2.ren ρ)) l
 | [],_,h=>h
 |_::_,_,⟨e,es,h,g,x⟩=>⟨e,es,⟨h.1.ren hN,h.2.ren hN⟩,jw.ren hN g,x⟩
theorem jw.nX{n:Nat}(hN:∀i,i.nat<n→∀L,M (ρ i)=some L→N i=some L):∀{es:List (V×V)} {l:List MapEntry},aaX n es=true→jw M (es.map fun p=>(p.1.ren ρ,p.2.ren ρ)) l→jw N es l
 | [],_,_,h=>h
 |p::ps,_,hi,⟨e,es,h,g,x⟩=>by
  simp only [aaX,Bool.and_eq_true] at hi
  exact⟨e,es,⟨h.1.nX hN hi.1.1,h.2.nX hN hi.1.2⟩,jw.nX hN hi.2 g,x⟩
theorem ig.ren{es:List (V×V)}(h:ig es):ig (es.map fun p=>(p.1.ren ρ,p.2.ren ρ)):=by
 unfold ig at*
 rw [List.map_map,show((fun x=>x.1)∘fun p:V×V=>(p.1.ren ρ,p.2.ren ρ))=(V.ren ρ)∘(fun x=>x.1) from rfl,←List.map_map,List.pairwise_map]
 exact h.imp fun h=>by rw [arQ];exact h
theorem ig.nX{es:List (V×V)}(h:ig (es.map fun p=>(p.1.ren ρ,p.2.ren ρ))):ig es:=by
 unfold ig at*
 rw [List.map_map,show((fun x=>x.1)∘fun p:V×V=>(p.1.ren ρ,p.2.ren ρ))=(V.ren ρ)∘(fun x=>x.1) from rfl,←List.map_map,List.pairwise_map] at h
 exact h.imp fun h=>by rw [arQ] at h;exact h
theorem aAs{cs:List V}{k:Nat}{v:V}(h:(cs.map (V.ren ρ))[k]?=some v):∃u,cs[k]?=some u∧v=u.ren ρ:=by
 rw [List.getElem?_map] at h
 cases hk:cs[k]? with
 |none=>rw [hk] at h;cases h
 |some u=>rw [hk] at h;cases h;exact⟨u,rfl,rfl⟩
theorem get_map{cs:List V}{k:Nat}{v:V}(h:cs[k]?=some v):(cs.map (V.ren ρ))[k]?=some (v.ren ρ):=by rw [List.getElem?_map,h];rfl
theorem jZ.ren(hN:∀i L,N i=some L→M (ρ i)=some L){L:Loc}{w:World}{o:Ob}(h:jZ N L w o):jZ M L w (o.ren ρ):=by
 cases o with
 |cells wr cs=>
  obtain⟨c,el,fr,a,b,g,f⟩:=h
  exact⟨c,el,fr,a,b,fun k v hk=>by obtain⟨u,hu,rfl⟩:=aAs hk;obtain⟨x,p,q,r⟩:=g k u hu;exact⟨x,p,q.ren hN,r⟩,by rw [List.length_map];exact f⟩
 |map es=>
  obtain⟨en,ck,a,⟨l,p,q⟩,b,c,d⟩:=h
  exact⟨en,ck,a,⟨l,p,q.ren hN⟩,b.ren,c,d⟩
 |iter s pos=>exact h
 |bytes cs=>
  obtain⟨c,el,fr,a,b,g,f⟩:=h
  exact⟨c,el,fr,a,b,fun k v hk=>by obtain⟨u,hu,rfl⟩:=aAs hk;obtain⟨x,p,q,r⟩:=g k u hu;exact⟨x,p,q.ren hN,r⟩,f⟩
theorem jZ.nX{n:Nat}(hN:∀i,i.nat<n→∀L,M (ρ i)=some L→N i=some L){L:Loc}{w:World}{o:Ob}(hi:o.ins n=true)(h:jZ M L w (o.ren ρ)):jZ N L w o:=by
 cases o with
 |cells wr cs=>
  obtain⟨c,el,fr,a,b,g,f⟩:=h
  exact⟨c,el,fr,a,b,fun k v hk=>by obtain⟨x,p,q,r⟩:=g k _ (get_map hk);exact⟨x,p,q.nX hN (UJ hi _ (List.mem_of_getElem? hk)),r⟩,by rw [List.length_map] at f;exact f⟩
 |map es=>
  obtain⟨en,ck,a,⟨l,p,q⟩,b,c,d⟩:=h
  exact⟨en,ck,a,⟨l,p,q.nX hN hi⟩,b.nX,c,d⟩
 |iter s pos=>exact h
 |bytes cs=>
  obtain⟨c,el,fr,a,b,g,f⟩:=h
  exact⟨c,el,fr,a,b,fun k v hk=>by obtain⟨x,p,q,r⟩:=g k _ (get_map hk);exact⟨x,p,q.nX hN (UJ hi _ (List.mem_of_getElem? hk)),r⟩,f⟩
end
structure Sub (G:Nat) (ρ:Pos→Pos) (K h:Hp):Prop where
 inj:∀i j,i.nat<K.next.nat→j.nat<K.next.nat→ρ i=ρ j→i=j
 lt:∀i,i.nat<K.next.nat→(ρ i).nat<h.next.nat
 ob:∀i o,K.get i=some o→i.nat<K.next.nat∧o.ins K.next.nat=true∧h.get (ρ i)=some (o.ren ρ)
 gl:∀g,g<G→g<K.next.nat∧ρ (Pos.of g)=Pos.of g
def sig(ρ:Pos→Pos)(a b:Nat)(i:Pos):Pos:=if i.nat<a then ρ i else Pos.of (i.nat - a+b)
theorem aeH{ρ:Pos→Pos}{a b:Nat}{i:Pos}(h:i.nat<a):sig ρ a b i=ρ i:=if_pos h
theorem amD{ρ:Pos→Pos}{a b:Nat}{i:Pos}(h:a≤i.nat):sig ρ a b i=Pos.of (i.nat - a+b):=if_neg (by omega)
structure Glued (ρ:Pos→Pos) (K K' h h':Hp):Prop where
 next:h'.next.nat=h.next.nat+(K'.next.nat - K.next.nat)
 old:∀i,i.nat<K.next.nat→K.get i≠none→h'.get (ρ i)=(K'.get i).map (Ob.ren (sig ρ K.next.nat h.next.nat))
 new:∀i,K.next.nat≤i.nat→i.nat<K'.next.nat→h'.get (sig ρ K.next.nat h.next.nat i)=(K'.get i).map (Ob.ren (sig ρ K.next.nat h.next.nat))
 oth:∀j,(∀i,i.nat<K.next.nat→K.get i≠none→ρ i≠j)→(j.nat<h.next.nat∨h'.next.nat≤j.nat)→h'.get j=h.get j
def Does(P:Program)(G:Nat)(f:FuncId)(a0:List V)(K:Hp)(r:V)(Kc:Hp):Prop:=
 ∀(M:Mp) (w:World) (cargs:List Value),Rel G M K w→bZ M a0 cargs→Opq P (Post G M K w r Kc) ((callFunc f cargs.toArray).run P w)
theorem avn{f:FuncId}{a0:List V}{K K' h h':Hp}{ρ:Pos→Pos}{r0:V}(hD:Does P G f a0 K r0 K')(S:Sub G ρ K h)(hi:insL K.next.nat a0=true)(hG:Glued ρ K K' h h'){M:Mp}{w:World}{cargs:List Value}(hr:Rel G M h w)(ha:bZ M (a0.map (V.ren ρ)) cargs):
  Opq P (Post G M h w (r0.ren (sig ρ K.next.nat h.next.nat)) h') ((callFunc f cargs.toArray).run P w):=by
 have hN:∀i,i.nat<K.next.nat→∀L,M (ρ i)=some L→(if i.nat<K.next.nat then M (ρ i) else none)=some L:=fun i hi L hL=>by rw [if_pos hi];exact hL
 have relK:Rel G (fun i=>if i.nat<K.next.nat then M (ρ i) else none) K w:=by
  refine⟨fun i o hio=>?_,fun i hge=>if_neg (by omega),fun i j o p L Q hne hio hjp ho hL hQ=>?_,fun g hg=>?_⟩
  ·obtain⟨h1,h2,h3⟩:=S.ob i o hio
   obtain⟨L,hL,hO⟩:=hr.ob _ _ h3
   exact⟨L,hN i h1 L hL,hO.nX hN h2⟩
  ·obtain⟨h1,-,h3⟩:=S.ob i o hio
   obtain⟨g1,-,g3⟩:=S.ob j p hjp
   simp only [h1,g1,if_true] at hL hQ
   exact hr.sep _ _ _ _ L Q (fun q=>hne (S.inj i j h1 g1 q)) h3 g3 (by rw [Ob.Di];exact ho) hL hQ
  ·obtain⟨h1,h2⟩:=S.gl g hg
   obtain⟨n,hn⟩:=hr.gl g hg
   exact⟨n,by simp only [Pos.gU,h1,if_true,h2];exact hn⟩
 have hcall:=hD _ w cargs relK (ha.nX hN hi)
 refine Opq.mono (fun c w' hp=>?_) hcall
 obtain⟨N',hr0,hR',hx'⟩:=hp
 have hnext:=hx'.next
 have hsame:∀i,i.nat<K.next.nat→N' i=M (ρ i):=fun i hi'=>by
  cases hm:M (ρ i) with
  |none=>exact hx'.none i hi' (by simp only [hi',if_true];exact hm)
  |some L=>exact hx'.le i L (hN i hi' L hm)
 obtain⟨M',hM'⟩:∃M':Mp,M'=fun j=>if j.nat<h.next.nat then M j else N' (Pos.of (j.nat - h.next.nat+K.next.nat)):=⟨_,rfl⟩
 have hold:∀j,j.nat<h.next.nat→M' j=M j:=fun j hj=>by rw [hM'];exact if_pos hj
 have hsig:∀i,M' (sig ρ K.next.nat h.next.nat i)=N' i:=fun i=>by
  rcases Nat.lt_or_ge i.nat K.next.nat with q|q
  ·rw [aeH q,hold _ (S.lt i q),hsame i q]
  ·rw [amD q,hM']
   simp only [Pos.gU]
   rw [if_neg (by omega)]
   congr 1
   exact Pos.wu (by rw [Pos.gU];omega)
 have hfwd:∀i L,N' i=some L→M' (sig ρ K.next.nat h.next.nat i)=some L:=fun i L hL=>by rw [hsig];exact hL
 have hle:M.le M':=fun j L hL=>by
  have:j.nat<h.next.nat:=by
   rcases Nat.lt_or_ge j.nat h.next.nat with q|q
   ·exact q
   ·rw [hr.fresh j q] at hL;cases hL
  rw [hold j this];exact hL
 have cases':∀j o,h'.get j=some o→(∃i o',K'.get i=some o'∧o=o'.ren (sig ρ K.next.nat h.next.nat)∧j=sig ρ K.next.nat h.next.nat i)∨
   (j.nat<h.next.nat∧h.get j=some o∧∀i,i.nat<K.next.nat→K.get i≠none→ρ i≠j):=fun j o hj=>by
  by_cases hin:∃i,i.nat<K.next.nat∧K.get i≠none∧ρ i=j
  ·obtain⟨i,h1,h2,rfl⟩:=hin
   rw [hG.old i h1 h2] at hj
   cases hk:K'.get i with
   |none=>rw [hk] at hj;cases hj
   |some o'=>rw [hk] at hj;cases hj;exact .inl ⟨i,o',hk,rfl,(aeH h1).symm⟩
  ·have hno:∀i,i.nat<K.next.nat→K.get i≠none→ρ i≠j:=fun i h1 h2 h3=>hin ⟨i,h1,h2,h3⟩
   rcases Nat.lt_or_ge j.nat h.next.nat with q|q
   ·rw [hG.oth j hno (.inl q)] at hj;exact .inr ⟨q,hj,hno⟩
   ·rcases Nat.lt_or_ge j.nat h'.next.nat with q'|q'
    ·have e1:j=sig ρ K.next.nat h.next.nat (Pos.of (j.nat - h.next.nat+K.next.nat)):=by
      rw [amD (by rw [Pos.gU];omega),Pos.gU]
      exact Pos.wu (by rw [Pos.gU];omega)
     have hn':=hG.next
     rw [e1,hG.new _ (by rw [Pos.gU];omega) (by rw [Pos.gU];omega)] at hj
     cases hk:K'.get (Pos.of (j.nat - h.next.nat+K.next.nat)) with
     |none=>rw [hk] at hj;cases hj
     |some o'=>rw [hk] at hj;cases hj;exact .inl ⟨_,o',hk,rfl,e1⟩
    ·rw [hG.oth j hno (.inr q')] at hj
     obtain⟨L,hL,-⟩:=hr.ob j o hj
     rw [hr.fresh j q] at hL;cases hL
 have apart:∀j o L,h.get j=some o→M j=some L→(∀i,i.nat<K.next.nat→K.get i≠none→ρ i≠j)→∀k p Q,K.get k=some p→(if k.nat<K.next.nat then M (ρ k) else none)=some Q→(o.own=true∨p.own=true)→L.blk≠Q.blk:=
  fun j o L hj hL hno k p Q hk hQ ho=>by
   obtain⟨h1,-,h3⟩:=S.ob k p hk
   simp only [h1,if_true] at hQ
   have hne:=hno k h1 (by rw [hk];simp)
   rcases ho with ho|ho
   ·exact hr.sep _ _ _ _ L Q hne.symm hj h3 ho hL hQ
   ·exact fun e=>hr.sep _ _ _ _ Q L hne h3 hj (by rw [Ob.Di];exact ho) hQ hL e.symm
 have relH:Rel G M' h' w':=by
  refine⟨fun j o hj=>?_,fun j hge=>?_,fun i j o p L Q hne hi' hj' ho hL hQ=>?_,fun g hg=>?_⟩
  ·rcases cases' j o hj with⟨i,o',hk,rfl,rfl⟩|⟨hlt,hg,hno⟩
   ·obtain⟨L,hL,hO⟩:=hR'.ob i o' hk
    exact⟨L,hfwd i L hL,hO.ren hfwd⟩
   ·obtain⟨L,hL,hO⟩:=hr.ob j o hg
    refine⟨L,by rw [hold j hlt];exact hL,(hO.of_block ?_).mono hle⟩
    exact hx'.same L.blk hO.lt fun k p Q hk hp hQ=>fun e=>apart j o L hg hL hno k p Q hk hQ (.inr hp) e.symm
  ·have hn':=hG.next
   rw [hM']
   simp only []
   rw [if_neg (by omega)]
   exact hR'.fresh _ (by rw [Pos.gU];omega)
  ·rcases cases' i o hi' with⟨i1,o1,hk1,rfl,rfl⟩|⟨hlt1,hg1,hno1⟩<;>rcases cases' j p hj' with⟨i2,o2,hk2,rfl,rfl⟩|⟨hlt2,hg2,hno2⟩
   ·rw [hsig] at hL hQ
    exact hR'.sep i1 i2 o1 o2 L Q (fun q=>hne (by rw [q])) hk1 hk2 (by rw [Ob.Di] at ho;exact ho) hL hQ
   ·rw [hsig] at hL
    rw [hold _ hlt2] at hQ
    obtain⟨Q',hQ',hO2⟩:=hr.ob j p hg2
    rw [hQ] at hQ';cases hQ'
    rcases hx'.own i1 o1 L hk1 (by rw [Ob.Di] at ho;exact ho) hL with hs|⟨k,pk,Kk,hk,hpo,hKk,hb⟩
    ·have:=hO2.lt;omega
    ·rw [←hb];exact fun e=>apart j p Q hg2 hQ hno2 k pk Kk hk hKk (.inr hpo) e.symm
   ·rw [hold _ hlt1] at hL
    rw [hsig] at hQ
    obtain⟨L',hL',hO1⟩:=hr.ob i o hg1
    rw [hL] at hL';cases hL'
    rcases hx'.all i2 o2 Q hk2 hQ with hs|⟨k,pk,Kk,hk,hKk,hb⟩
    ·have:=hO1.lt;omega
    ·rw [←hb];exact apart i o L hg1 hL hno1 k pk Kk hk hKk (.inl ho)
   ·rw [hold _ hlt1] at hL
    rw [hold _ hlt2] at hQ
    exact hr.sep i j o p L Q hne hg1 hg2 ho hL hQ
  ·obtain⟨h1,h2⟩:=S.gl g hg
   obtain⟨n,hn⟩:=hr.gl g hg
   exact⟨n,hle _ _ hn⟩
 refine⟨M',hr0.ren hfwd,relH,hle,by have:=hG.next;omega,hx'.os,hx'.tape,hx'.output,hx'.size,fun b hb hno=>?_,fun i o L hi' ho hL=>?_,fun j hj hn=>?_,fun i o L hi' hL=>?_,fun j hj hn=>by rw [hold j hj];exact hn⟩
 ·refine hx'.same b hb fun k p Q hk hp hQ=>?_
  obtain⟨h1,-,h3⟩:=S.ob k p hk
  simp only [h1,if_true] at hQ
  exact hno _ _ Q h3 (by rw [Ob.Di];exact hp) hQ
 ·rcases cases' i o hi' with⟨i1,o1,hk1,rfl,rfl⟩|⟨hlt1,hg1,hno1⟩
  ·rw [hsig] at hL
   rcases hx'.own i1 o1 L hk1 (by rw [Ob.Di] at ho;exact ho) hL with hs|⟨k,pk,Kk,hk,hpo,hKk,hb⟩
   ·exact .inl hs
   ·obtain⟨h1,-,h3⟩:=S.ob k pk hk
    simp only [h1,if_true] at hKk
    exact .inr ⟨_,_,Kk,h3,by rw [Ob.Di];exact hpo,hKk,hb⟩
  ·rw [hold _ hlt1] at hL
   exact .inr ⟨i,o,L,hg1,ho,hL,rfl⟩
 ·by_cases hin:∃i,i.nat<K.next.nat∧K.get i≠none∧ρ i=j
  ·obtain⟨i,h1,h2,rfl⟩:=hin
   cases hk:K.get i with
   |none=>exact absurd hk h2
   |some o=>rw [(S.ob i o hk).2.2] at hn;cases hn
  ·rw [hG.oth j (fun i h1 h2 h3=>hin ⟨i,h1,h2,h3⟩) (.inl hj)];exact hn
 ·rcases cases' i o hi' with⟨i1,o1,hk1,rfl,rfl⟩|⟨hlt1,hg1,hno1⟩
  ·rw [hsig] at hL
   rcases hx'.all i1 o1 L hk1 hL with hs|⟨k,pk,Kk,hk,hKk,hb⟩
   ·exact .inl hs
   ·obtain⟨h1,-,h3⟩:=S.ob k pk hk
    simp only [h1,if_true] at hKk
    exact .inr ⟨_,_,Kk,h3,hKk,hb⟩
  ·rw [hold _ hlt1] at hL
   exact .inr ⟨i,o,L,hg1,hL,rfl⟩
open Classical in
end
end Go.Vm

namespace Go.Vm
noncomputable section
variable{P:Program}{G:Nat}
def mkF:Hp→List Ob→Hp
 |h,[]=>h
 |h,o::l=>mkF (h.new o) l
theorem aky:∀(l:List Ob) (h:Hp),(mkF h l).next.nat=h.next.nat+l.length
 | [],h=>rfl
 |o::l,h=>by rw [mkF,aky l,List.length_cons];have:(h.new o).next.nat=h.next.nat+1:=Pos.eY _;omega
theorem ahN:∀(l:List Ob) (h:Hp) (i:Pos),(mkF h l).get i=if h.next.nat≤i.nat∧i.nat<h.next.nat+l.length then l[i.nat - h.next.nat]? else h.get i
 | [],h,i=>by
  rw [if_neg]
  ·rfl
  ·simp only [List.length_nil];omega
 |o::l,h,i=>by
  rw [mkF,ahN l]
  have hn:(h.new o).next.nat=h.next.nat+1:=Pos.eY _
  rw [hn,List.length_cons]
  by_cases e:i=h.next
  ·subst e
   rw [if_neg (by omega),if_pos (by omega),Nat.sub_self]
   exact h.qP o
  ·have hne:i.nat≠h.next.nat:=fun q=>e (Pos.wu q)
   rw [h.jy e]
   by_cases hi:h.next.nat+1≤i.nat∧i.nat<h.next.nat+1+l.length
   ·rw [if_pos hi,if_pos (by omega),show i.nat - h.next.nat=(i.nat - (h.next.nat+1))+1 by omega,List.getElem?_cons_succ]
   ·rw [if_neg hi,if_neg (by omega)]
def apY:Hp→List (Option Ob)→Hp
 |h,[]=>h
 |h,o::l=>apY ⟨h.t.set o h.next,h.next.succ⟩ l
def mkO(G:Nat)(os:List (Option Ob)):Hp:=apY (h0 G) os
theorem arM:∀(l:List (Option Ob)) (h:Hp),(apY h l).next.nat=h.next.nat+l.length
 | [],h=>rfl
 |o::l,h=>by
  rw [apY,arM l,List.length_cons]
  show h.next.succ.nat+_=_
  rw [Pos.eY];omega
theorem avk:∀(l:List (Option Ob)) (h:Hp) (i:Pos),(apY h l).get i=if h.next.nat≤i.nat∧i.nat<h.next.nat+l.length then(l[i.nat - h.next.nat]?).join else h.get i
 | [],h,i=>by
  rw [if_neg]
  ·rfl
  ·simp only [List.length_nil];omega
 |o::l,h,i=>by
  rw [apY,avk l]
  show(if h.next.succ.nat≤i.nat∧i.nat<h.next.succ.nat+l.length then(l[i.nat - h.next.succ.nat]?).join else(h.t.set o h.next).get i)=_
  rw [Pos.eY,List.length_cons]
  by_cases e:i=h.next
  ·subst e
   rw [if_neg (by omega),if_pos (by omega),Nat.sub_self,T.oK]
   rfl
  ·have hne:i.nat≠h.next.nat:=fun q=>e (Pos.wu q)
   rw [T.tY _ e]
   by_cases hi:h.next.nat+1≤i.nat∧i.nat<h.next.nat+1+l.length
   ·rw [if_pos hi,if_pos (by omega),show i.nat - h.next.nat=(i.nat - (h.next.nat+1))+1 by omega,List.getElem?_cons_succ]
   ·rw [if_neg hi,if_neg (by omega)];rfl
theorem UF(os:List (Option Ob)):(mkO G os).next.nat=G+os.length:=by
 unfold mkO;rw [arM]
 show(Pos.of G).nat+_=_
 rw [Pos.gU]
theorem KA(os:List (Option Ob))(i:Pos):(mkO G os).get i=if G≤i.nat then(os[i.nat - G]?).join else none:=by
 unfold mkO;rw [avk,afb]
 show(if(Pos.of G).nat≤i.nat∧i.nat<(Pos.of G).nat+os.length then(os[i.nat - (Pos.of G).nat]?).join else none)=_
 rw [Pos.gU]
 by_cases h1:G≤i.nat
 ·by_cases h2:i.nat<G+os.length
  ·rw [if_pos ⟨h1,h2⟩,if_pos h1]
  ·rw [if_neg (by omega),if_pos h1,List.getElem?_eq_none (by omega)];rfl
 ·rw [if_neg (by omega),if_neg h1]
def aaS:Nat→List Pos→Pos
 |_,[]=>.h
 |0,p::_=>p
 |n+1,_::l=>aaS n l
theorem apU:∀(n:Nat) (l:List Pos),aaS n l=(l[n]?).getD .h
 |n,[]=>by cases n<;>rfl
 |0,_::_=>rfl
 |n+1,_::l=>by rw [aaS,apU n l];rfl
def tau(a:Nat)(l:List Pos)(i:Pos):Pos:=match Nat.blt i.nat a with|true=>i|false=>aaS (i.nat - a) l
theorem pX{a:Nat}{l:List Pos}{i:Pos}(h:i.nat<a):tau a l i=i:=by
 unfold tau;rw [show Nat.blt i.nat a=true by simpa [Nat.blt_eq] using h]
theorem aeA{a:Nat}{l:List Pos}{i p:Pos}(h:a≤i.nat)(hp:l[i.nat - a]?=some p):tau a l i=p:=by
 have:Nat.blt i.nat a=false:=by
  cases hb:Nat.blt i.nat a with
  |false=>rfl
  |true=>
       have:i.nat<a:=by simpa [Nat.blt_eq] using hb
       omega
 unfold tau;rw [this]
 show aaS (i.nat - a) l=p
 rw [apU,hp];rfl
theorem V.ahx(ρ σ:Pos→Pos)(v:V):(v.ren ρ).ren σ=v.ren (fun i=>σ (ρ i)):=by
 induction v with
 |func fn a b iha ihb=>
  simp only [V.ren,iha,ihb]
  congr 1
  cases fn<;>first|rfl|(simp only [SK,Pos.Uz])
 |iface t v ih=>simp only [V.ren,ih]
 |agg l ih=>simp only [V.ren,ih]
 |tuple l ih=>simp only [V.ren,ih]
 |cons a b iha ihb=>simp only [V.ren,iha,ihb]
 |_=>rfl
theorem ay5{n:Nat}{ρ σ:Pos→Pos}(h:∀i:Pos,i.nat<n→ρ i=σ i){f:Fn}(hf:ahQ n f=true):SK ρ f=SK σ f:=by
 cases f<;>first|rfl|(simp only [SK];rw [h _ (by rw [Pos.gU];simpa [ahQ,Nat.blt_eq] using hf)])
theorem V.tJ{n:Nat}{ρ σ:Pos→Pos}(h:∀i:Pos,i.nat<n→ρ i=σ i):∀{v:V},v.ins n=true→v.ren ρ=v.ren σ:=by
 intro v
 induction v with
 |ptr i o=>intro hi;simp only [V.ren];rw [h i (by simpa [V.ins,Nat.blt_eq] using hi)]
 |slice i o m c=>intro hi;simp only [V.ren];rw [h i (by simpa [V.ins,Nat.blt_eq] using hi)]
 |map i=>intro hi;simp only [V.ren];rw [h i (by simpa [V.ins,Nat.blt_eq] using hi)]
 |func fn a b iha ihb=>
  intro hi
  simp only [V.ins,Bool.and_eq_true] at hi
  simp only [V.ren];rw [ay5 h hi.1,iha hi.2.1,ihb hi.2.2]
 |iface t v ih=>intro hi;simp only [V.ren];rw [ih hi]
 |agg l ih=>intro hi;simp only [V.ren];rw [ih hi]
 |tuple l ih=>intro hi;simp only [V.ren];rw [ih hi]
 |cons a b iha ihb=>
  intro hi
  simp only [V.ins,Bool.and_eq_true] at hi
  simp only [V.ren];rw [iha hi.1,ihb hi.2]
 |_=>intro _;rfl
theorem akD{n:Nat}:∀{l:List (V×V)},aaX n l=true→∀v∈l,v.1.ins n=true∧v.2.ins n=true
 | [],_,v,h=>by cases h
 |u::l,h,v,hv=>by
  simp only [aaX,Bool.and_eq_true] at h
  rcases List.mem_cons.1 hv with rfl|hv
  ·exact h.1
  ·exact akD h.2 v hv
theorem Ob.tJ{n:Nat}{ρ σ:Pos→Pos}(h:∀i:Pos,i.nat<n→ρ i=σ i){o:Ob}(hi:o.ins n=true):o.ren ρ=o.ren σ:=by
 cases o with
 |cells w cs=>simp only [Ob.ren];congr 1;exact List.map_congr_left fun v hv=>V.tJ h (UJ hi v hv)
 |map es=>simp only [Ob.ren];congr 1;exact List.map_congr_left fun v hv=>by rw [V.tJ h (akD hi v hv).1,V.tJ h (akD hi v hv).2]
 |iter s n=>rfl
 |bytes cs=>simp only [Ob.ren];congr 1;exact List.map_congr_left fun v hv=>V.tJ h (UJ hi v hv)
theorem Ob.ahx(ρ σ:Pos→Pos)(o:Ob):(o.ren ρ).ren σ=o.ren (fun i=>σ (ρ i)):=by
 cases o with
 |cells w cs=>simp only [Ob.ren,List.map_map];congr 1;apply List.map_congr_left;intro v _;exact V.ahx ρ σ v
 |map es=>simp only [Ob.ren,List.map_map];congr 1;apply List.map_congr_left;intro v _;simp only [Function.comp,V.ahx]
 |iter s n=>rfl
 |bytes cs=>simp only [Ob.ren,List.map_map];congr 1;apply List.map_congr_left;intro v _;exact V.ahx ρ σ v
def rising(b:Nat):Nat→List Pos→Bool
 |_,[]=>true
 |lo,p::l=>(Nat.ble lo p.nat&&Nat.blt p.nat b)&&rising b (p.nat+1) l
theorem arx{b:Nat}:∀{lo:Nat} {l:List Pos},rising b lo l=true→(∀(k:Nat) (p:Pos),l[k]?=some p→lo+k≤p.nat∧p.nat<b)∧∀(k j:Nat) (p q:Pos),l[k]?=some p→l[j]?=some q→k<j→p.nat<q.nat
 |_,[],_=>⟨fun k p h=>by simp at h,fun k j p q h=>by simp at h⟩
 |lo,p::l,h=>by
  simp only [rising,Bool.and_eq_true] at h
  obtain⟨⟨h1,h2⟩,h6⟩:=h
  obtain⟨g2,g3⟩:=arx h6
  have h1':=Nat.le_of_ble_eq_true h1
  have h2':p.nat<b:=by simpa [Nat.blt_eq] using h2
  refine⟨fun k q hk=>?_,fun k j q r hk hj hkj=>?_⟩
  ·cases k with
   |zero=>simp at hk;subst hk;exact⟨by omega,h2'⟩
   |succ k=>simp at hk;obtain⟨a,b⟩:=g2 k q hk;exact⟨by omega,b⟩
  ·cases j with
   |zero=>omega
   |succ j=>
    simp at hj
    cases k with
    |zero=>simp at hk;subst hk;have:=(g2 j r hj).1;omega
    |succ k=>simp at hk;exact g3 k j q r hk hj (by omega)
def atS(n:Nat)(t:Pos→Pos)(K':Hp):Pos→List (Option Ob)→Bool
 |_,[]=>true
 |i,o::l=>(match o with
  |none=>true
  |some x=>x.ins n&&(match K'.get (t i) with|some q=>avK q (x.ren t)|none=>false))&&atS n t K' i.succ l
theorem av1{n:Nat}{t:Pos→Pos}{K':Hp}:∀{l:List (Option Ob)} {i:Pos},atS n t K' i l=true→∀(k:Nat) (x:Ob),l[k]?=some (some x)→x.ins n=true∧∀j:Pos,j.nat=i.nat+k→K'.get (t j)=some (x.ren t)
 | [],_,_,k,x,hk=>by simp at hk
 |o::l,i,h,k,x,hk=>by
  simp only [atS,Bool.and_eq_true] at h
  cases k with
  |zero=>
   simp at hk;subst hk
   simp only [Bool.and_eq_true] at h
   refine⟨h.1.1,fun j hj=>?_⟩
   obtain rfl:j=i:=Pos.wu hj
   have h2:=h.1.2
   split at h2
   ·rename_i q hq;rw [hq,aAH h2]
   ·cases h2
  |succ k=>
   simp at hk
   obtain⟨a,b⟩:=av1 h.2 k x hk
   exact⟨a,fun j hj=>b j (by rw [Pos.eY];omega)⟩
def D6(G a:Nat)(os:List (Option Ob))(l:List Pos)(rc:V):R V→Bool
 | .ok r K'=>(lI r (rc.ren (tau a l))&&rc.ins (G+os.length))&&((Nat.beq (G+os.length) (a+l.length)&&rising K'.next.nat a l)&&atS (G+os.length) (tau a l) K' (Pos.of G) os)
 | .bad=>false
theorem Does.comp{f:FuncId}{F:Fun}{a0:List V}{K:Hp}{a:Nat}{os:List (Option Ob)}{l:List Pos}{rc:V}(hF:aJ P G f F)(ha:K.next.nat=a)(e:D6 G a os l rc (F a0 K)=true):Does P G f a0 K rc (mkO G os):=by
 subst ha
 unfold D6 at e
 split at e
 ·rename_i r0 K' e0
  simp only [Bool.and_eq_true] at e
  obtain⟨⟨e1,e2⟩,⟨e3,e4⟩,e5⟩:=e
  have e1:=wB _ _ e1
  have e3:=Nat.eq_of_beq_eq_true e3
  obtain⟨r1,r2⟩:=arx e4
  have hos:=av1 e5
  have hn:=UF (G:=G) os
  intro M w cargs hr hargs
  refine Opq.mono (fun c w' hp=>?_) (hF a0 K r0 K' M w cargs e0 hr hargs)
  obtain⟨N',hr0,hR',hx'⟩:=hp
  have hGK:∀g,g<G→g<K.next.nat:=fun g hg=>by
   rcases Nat.lt_or_ge g K.next.nat with q|q
   ·exact q
   ·obtain⟨n,hn⟩:=hr.gl g hg
    rw [hr.fresh (Pos.of g) (by rw [Pos.gU];exact q)] at hn;cases hn
  have tge:∀i:Pos,K.next.nat≤i.nat→i.nat<K.next.nat+l.length→∃p,l[i.nat - K.next.nat]?=some p∧tau K.next.nat l i=p:=fun i h1 h2=>by
   have:i.nat - K.next.nat<l.length:=by omega
   exact⟨_,List.getElem?_eq_getElem this,aeA h1 (List.getElem?_eq_getElem this)⟩
  have tinj:∀i j:Pos,i.nat<K.next.nat+l.length→j.nat<K.next.nat+l.length→tau K.next.nat l i=tau K.next.nat l j→i=j:=fun i j hi hj e=>by
   rcases Nat.lt_or_ge i.nat K.next.nat with x|x<;>rcases Nat.lt_or_ge j.nat K.next.nat with y|y
   ·rw [pX x,pX y] at e;exact e
   ·obtain⟨q,hq,e2⟩:=tge j y hj
    rw [pX x,e2] at e
    have:=(r1 _ _ hq).1
    rw [←e] at this;omega
   ·obtain⟨q,hq,e2⟩:=tge i x hi
    rw [pX y,e2] at e
    have:=(r1 _ _ hq).1
    rw [e] at this;omega
   ·obtain⟨q,hq,e2⟩:=tge i x hi
    obtain⟨r,hr,e3⟩:=tge j y hj
    rw [e2,e3] at e
    rcases Nat.lt_trichotomy (i.nat - K.next.nat) (j.nat - K.next.nat) with z|z|z
    ·have:=r2 _ _ _ _ hq hr z;rw [e] at this;omega
    ·exact Pos.wu (by omega)
    ·have:=r2 _ _ _ _ hr hq z;rw [e] at this;omega
  have hob:∀i x,(mkO G os).get i=some x→i.nat<G+os.length∧x.ins (G+os.length)=true∧K'.get (tau K.next.nat l i)=some (x.ren (tau K.next.nat l)):=fun i x hi=>by
   rw [KA] at hi
   split at hi
   ·rename_i hG
    have hk:os[i.nat - G]?=some (some x):=by
     cases h:os[i.nat - G]? with
     |none=>rw [h] at hi;cases hi
     |some y=>rw [h] at hi;cases y with
      |none=>cases hi
      |some y=>cases hi;rfl
    have hlt:i.nat - G<os.length:=(List.getElem?_eq_some_iff.1 hk).1
    obtain⟨p,q⟩:=hos _ _ hk
    exact⟨by omega,p,q i (by rw [Pos.gU];omega)⟩
   ·cases hi
  have hun:∀i:Pos,i.nat<G+os.length→∀L,N' (tau K.next.nat l i)=some L→(if i.nat<G+os.length then N' (tau K.next.nat l i) else none)=some L:=fun i hi L hL=>by rw [if_pos hi];exact hL
  refine⟨fun i=>if i.nat<G+os.length then N' (tau K.next.nat l i) else none,?_,⟨fun i o hi=>?_,fun i hge=>if_neg (by omega),fun i j o p L Q hne hi hj ho hL hQ=>?_,fun g hg=>?_⟩,
   ⟨fun i L hL=>?_,by omega,hx'.os,hx'.tape,hx'.output,hx'.size,fun b hb hno=>hx'.same b hb hno,fun i o L hi ho hL=>?_,fun i hi hn0=>?_,fun i o L hi hL=>?_,fun i hi hn0=>?_⟩⟩
  ·rw [e1] at hr0;exact hr0.nX hun e2
  ·obtain⟨a1,a2,a3⟩:=hob i o hi
   obtain⟨L,hL,hO⟩:=hR'.ob _ _ a3
   exact⟨L,hun i a1 L hL,hO.nX hun a2⟩
  ·obtain⟨a1,a2,a3⟩:=hob i o hi
   obtain⟨b1,b2,b3⟩:=hob j p hj
   simp only [a1,b1,if_true] at hL hQ
   exact hR'.sep _ _ _ _ L Q (fun q=>hne (tinj i j (by omega) (by omega) q)) a3 b3 (by rw [Ob.Di];exact ho) hL hQ
  ·obtain⟨n,hn'⟩:=hR'.gl g hg
   have:=hGK g hg
   refine⟨n,?_⟩
   simp only [Pos.gU]
   rw [if_pos (by omega),pX (by rw [Pos.gU];exact this)]
   exact hn'
  ·have hlt:i.nat<K.next.nat:=by
    rcases Nat.lt_or_ge i.nat K.next.nat with q|q
    ·exact q
    ·rw [hr.fresh i q] at hL;cases hL
   show(if i.nat<G+os.length then N' (tau K.next.nat l i) else none)=some L
   rw [if_pos (by omega),pX hlt]
   exact hx'.le i L hL
  ·obtain⟨a1,a2,a3⟩:=hob i o hi
   simp only [a1,if_true] at hL
   exact hx'.own _ _ L a3 (by rw [Ob.Di];exact ho) hL
  ·cases hc:(mkO G os).get i with
   |none=>rfl
   |some x=>
    obtain⟨a1,a2,a3⟩:=hob i x hc
    rw [pX hi,hx'.old i hi hn0] at a3;cases a3
  ·obtain⟨a1,a2,a3⟩:=hob i o hi
   simp only [a1,if_true] at hL
   exact hx'.all _ _ L a3 hL
  ·show(if i.nat<G+os.length then N' (tau K.next.nat l i) else none)=none
   split
   ·rw [pX hi];exact hx'.none i hi hn0
   ·rfl
 ·cases e
end
end Go.Vm
