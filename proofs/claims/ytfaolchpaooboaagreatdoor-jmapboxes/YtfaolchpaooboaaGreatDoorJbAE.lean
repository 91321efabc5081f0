/- Part of the claim: facts that its last text uses. No conditions. -/
import Derived.Test.YtfaolchpaooboaaGreatDoorJbAD
import Derived.Laws.Externs
import Derived.Laws.LoneSync
import Derived.Lib.Bytealg
import Derived.Lib.MakeNoZero
import Derived.Lib.LaidCaseMet
set_option linter.all false
namespace Go.Vm
noncomputable section
variable{P:Program}{ops:Array Oper}{G N:Nat}
def wM(ops:Array Oper)(sb sb':Nat→Nat→Bool)(G N:Nat)(plan:Plan):Bool:=
 (nodupB (plan.map (·.1))&&((List.range ops.size).all (fun i=>(plan.map (·.1)).any (Nat.beq i))&&(plan.all (fun x=>Nat.blt x.1 ops.size)&&
  ((phased 0 plan).all (fun x=>(phased 0 plan).all (gY sb' x))&&
  (each ops (fun i o=>match o.guard with|some (g,_)=>sb g i|none=>true)&&
  (each ops (fun i o=>match o.dst with|some t=>each ops (fun i' o'=>match xq o' t with|true=>Nat.beq i i'|false=>true)|none=>true)&&
  (each ops (fun i o=>o.op.operands.toList.all fun x=>match x with
   | .tmp t=>(match lM ops sb i t with
    |true=>true
    |false=>each ops fun i' o'=>(match xq o' t with|true=>Nat.beq i i'||sb i i'|false=>true))
   |_=>true)&&
  (ops.toList.all (iM G N)&&((phased 0 plan).all (ownB ops sb (phased 0 plan))&&(phased 0 plan).all (abW ops sb (phased 0 plan)))))))))))
theorem Fz{Ed:Nat→Nat→Prop}{sb sb':Nat→Nat→Bool}{plan:Plan}(hsb:∀{i j},i<ops.size→sb j i=true→Bef Ed j i)(hsp:∀{i j},i<ops.size→sb' j i=true→Bef Ed j i)
  (h:wM ops sb sb' G N plan=true):Static ops Ed sb G N plan:=by
 simp only [wM,Bool.and_eq_true] at h
 obtain⟨h2,h3,h4,h5,h6,h7,h8,h9,h10,h11⟩:=h
 have hlt:∀{i c j},(i,c,j)∈phased 0 plan→i<ops.size:=fun{i c j} hm=>by
  obtain⟨⟨i',c'⟩,hm',rfl⟩:=List.mem_map.1 (jG hm)
  have:=List.all_eq_true.1 h4 _ hm'
  simpa [Nat.blt_eq] using this
 have pr:∀x y,x∈phased 0 plan→y∈phased 0 plan→gY sb' x y=true:=fun x y hx hy=>
  List.all_eq_true.1 (List.all_eq_true.1 h5 x hx) y hy
 refine⟨fun i hi=>?_,vI h2,fun j hj=>?_,fun i j i' j' a b hl=>?_,fun i i' j a b=>?_,fun i j i' j' a b hl=>?_,fun i n j i' j' a b hl=>?_,fun i n j i' j' a b hl=>?_,fun i n j i' j' a b hl=>?_,fun i x j hm=>?_,fun i n j i' j' a b hl=>?_,fun i x j hm=>?_,
  fun i o g b ho hg=>?_,fun i i' o o' t ho ho' hd hd'=>?_,fun i t hi hs=>?_,fun i o t ho hx hs i' o' ho' hd=>?_,fun o ho=>List.all_eq_true.1 h9 o ho⟩
 ·have:=List.all_eq_true.1 h3 i (List.mem_range.2 hi)
  rw [List.any_eq_true] at this
  obtain⟨k,hk,hb⟩:=this
  rw [Nat.eq_of_beq_eq_true hb]
  exact iD hk
 ·obtain⟨i,hi⟩:=jZ (j₀:=0) (l:=plan) (Nat.zero_le j) (by omega)
  exact⟨i,hi,hlt hi⟩
 ·have:=pr _ _ a b
  simp only [gY,iC,show Nat.blt j j'=true from by simpa [Nat.blt_eq] using hl] at this
  exact hsp (hlt b) this
 ·have:=pr _ _ a b
  have hjj:Nat.blt j j=false:=by
   cases hb:Nat.blt j j with
   |false=>rfl
   |true=>have:=Nat.le_of_ble_eq_true hb;omega
  simp only [gY,iC,hjj,show Nat.beq j j=true from Nat.beq_refl j] at this
  exact Nat.eq_of_beq_eq_true this
 ·have:=pr _ _ a b
  simp only [gY,iC,show Nat.ble j j'=true from Nat.ble_eq_true_of_le hl] at this
  exact hsp (hlt b) this
 ·have:=pr _ _ a b
  simp only [gY,iC,show Nat.ble j j'=true from Nat.ble_eq_true_of_le hl] at this
  exact hsp (hlt b) this
 ·have:=pr _ _ a b
  have hn:Nat.ble j j'=false:=by
   cases hb:Nat.ble j j' with
   |false=>rfl
   |true=>have:=Nat.le_of_ble_eq_true hb;omega
  simp only [gY,iC,hn,show Nat.blt (j'+n) j=true from by simpa [Nat.blt_eq] using hl] at this
  exact hsp (hlt a) this
 ·have:=pr _ _ a b
  simp only [gY,iC,show Nat.ble j j'=true from Nat.ble_eq_true_of_le hl] at this
  exact hsp (hlt b) this
 ·have:=List.all_eq_true.1 h10 _ hm
  unfold ownB at this
  simp only [] at this
  split at this
  ·rename_i oa o hoa ho
   split at this
   ·rename_i t u hta hops
    simp only [Bool.and_eq_true] at this
    obtain⟨e1,e2,e3,e4⟩:=this
    have e1:=Nat.eq_of_beq_eq_true e1
    subst e1
    rw [List.any_eq_true] at e4
    obtain⟨⟨y1,y2,y3⟩,hy,e4⟩:=e4
    simp only [] at e4
    split at e4
    ·simp only [Bool.and_eq_true] at e4
     have h1y:=Nat.eq_of_beq_eq_true e4.1
     have h2y:=Nat.eq_of_beq_eq_true e4.2
     subst h1y
     subst h2y
     exact⟨hy,hsb (hlt hm) e3,oa,o,t,hoa,hta,ho,hops,e2⟩
    ·cases e4
   ·cases this
  ·cases this
 ·have:=pr _ _ a b
  simp only [gY,iC,show Nat.ble j j'=true from Nat.ble_eq_true_of_le hl] at this
  exact hsp (hlt b) this
 ·have:=List.all_eq_true.1 h11 _ hm
  unfold abW at this
  simp only [] at this
  split at this
  ·rename_i oa o hoa ho
   split at this
   ·rename_i t u rest hta hops
    simp only [Bool.and_eq_true] at this
    obtain⟨e1,e2,e3,e4⟩:=this
    have e1:=Nat.eq_of_beq_eq_true e1
    subst e1
    rw [List.any_eq_true] at e4
    obtain⟨⟨y1,y2,y3⟩,hy,e4⟩:=e4
    simp only [] at e4
    split at e4
    ·simp only [Bool.and_eq_true] at e4
     have h1y:=Nat.eq_of_beq_eq_true e4.1
     have h2y:=Nat.eq_of_beq_eq_true e4.2
     subst h1y
     subst h2y
     exact⟨hy,hsb (hlt hm) e3,oa,o,t,rest,hoa,hta,ho,hops,e2⟩
    ·cases e4
   ·cases this
  ·cases this
 ·have:=jb h6 ho
  simp only [hg] at this
  exact hsb (Array.getElem?_eq_some_iff.1 ho).1 this
 ·have:=jb h7 ho
  simp only [hd] at this
  have:=jb this ho'
  simp only [tK hd'] at this
  exact Nat.eq_of_beq_eq_true this
 ·unfold lM at hs
  rw [List.any_eq_true] at hs
  obtain⟨i',hi',hs⟩:=hs
  split at hs
  ·rename_i o' ho'
   split at hs
   ·rename_i d hd
    split at hs
    ·rename_i hb
     exact⟨i',o',ho',by rw [hd,Nat.eq_of_beq_eq_true hb],hsb hi hs⟩
    ·cases hs
   ·cases hs
  ·cases hs
 ·have:=jb h8 ho
  have:=List.all_eq_true.1 this _ hx
  simp only [hs] at this
  have:=jb this ho'
  simp only [tK hd,Bool.or_eq_true] at this
  rcases this with h|h
  ·exact .inl (Nat.eq_of_beq_eq_true h)
  ·exact .inr (hsb (Array.getElem?_eq_some_iff.1 ho').1 h)
end
end Go.Vm
namespace Go.Vm
noncomputable section
variable{P:Program}{e:FuncId→Option Fun}{Ed:Nat→Nat→Prop}{ops:Array Oper}{sb:Nat→Nat→Bool}{fr:F}{keep:Nat→Bool}{G N:Nat}{Df:List Deferred}
variable{T:Tr}{plan:Plan}{M₀ M:Mp}{h h₀ f:Hp}{w₀ w:World}{L:Array Bool}{j:Nat}{a:Act}{i:Nat}{out:Out}{k:Env→Hp→Out}
theorem ajX(S:Static ops Ed sb G N plan)(t:Told P e ops sb fr k plan [] ⟨h.t,bump (fA plan) h.next⟩ ⟨h.t,bump (fA plan) h.next⟩ [] [] h.next out T):Made T ops Ed plan h.next:=by
 refine⟨fun i j p ob hA=>?_,t.a2,t.a3,fun j=>?_,fun i j p x y hI=>?_,t.i2,t.i4⟩
 ·obtain⟨g1,g2,g3,g4,g5⟩:=t.a1 i j p ob hA
  exact⟨g1,g3,g4,g5⟩
 ·by_cases hj:j=0
  ·subst hj
   have hB:T.Bs 0=_:=t.tBase
   rw [hB]
   refine⟨fun x hx=>?_,t.cn⟩
   have:=t.cs x hx
   rw [show([]:List Hp).length=0 from rfl] at this
   rw [this,qW fun y hy hj hyp=>?_]
   ·cases(Hp.get ⟨h.t,bump (fA plan) h.next⟩ x) with
    |none=>rfl
    |some o=>simp [mO]
   ·exfalso
    obtain⟨i',j',p',x',y'⟩:=y
    have hj:j'=0:=hj
    have hyp:p'=x:=hyp
    subst hj;subst hyp
    obtain⟨g1,_,_⟩:=t.i1 _ _ _ _ _ hy
    rcases g1 with⟨_,e2,fs,e3⟩|⟨a,ob,g1⟩
    ·rw [e2] at e3;cases e3
    ·exact hx a ob g1
  ·exact t.ct j (by simp;omega)
 ·obtain⟨_,⟨a,g2⟩,g3⟩:=t.i1 _ _ _ _ _ hI
  obtain⟨k1,k2⟩:=JY S t.steps t.i2 hI g2 g3
  exact⟨a,g2,k1,k2,g3⟩
theorem ags(S:Static ops Ed sb G N plan)(t:Told P e ops sb fr k plan [] ⟨h.t,bump (fA plan) h.next⟩ ⟨h.t,bump (fA plan) h.next⟩ [] [] h.next out T)(at_:At keep G N Df M fr h a w):
  Inv T ops Ed plan keep fr G N Df M h w (Array.replicate ops.size false) M (T.Bs 0) 0 a {w with drawn:=w.drawn+1}:=by
 have hB0:T.Bs 0=⟨h.t,bump (fA plan) h.next⟩:=t.tBase
 have hbn:(T.Bs 0).next.nat=h.next.nat+fA plan:=by rw [hB0];exact N8 _ _
 have hw:({w with drawn:=w.drawn+1}:World).heap=w.heap:=rfl
 have hr1:Rel G M (T.Bs 0) {w with drawn:=w.drawn+1}:=by
  refine(at_.rel.heap hw).sub (fun i o hi=>?_) (by rw [hbn];omega)
  rw [hB0] at hi;exact hi
 have hx1:Ext M h w M (T.Bs 0) {w with drawn:=w.drawn+1}:=by
  have hx:=Ext.refl at_.rel
  refine⟨hx.le,by rw [hbn];omega,rfl,rfl,rfl,Nat.le_refl _,fun _ _ _=>rfl,fun i o L hi=>?_,fun i _ hi=>?_,fun i o L hi=>?_,hx.none⟩
  ·rw [hB0] at hi;exact hx.own i o L hi
  ·rw [hB0];exact hi
  ·rw [hB0] at hi;exact hx.all i o L hi
 have hL0:∀i,(Array.replicate ops.size false).getD i false=false:=fun i=>by
  rw [Array.getD_eq_getD_getElem?,Array.getElem?_replicate];split<;>rfl
 refine⟨by simp,fun i k _ hk=>?_,Nat.zero_le _,fun i j' _=>?_,hr1,rfl,fun i j' p ob _ hl=>?_,fun _ _=>rfl,fun i j' p ob hA _=>?_,fun i j' p ob hA _=>?_,fun i o d v hl=>?_,fun t' v _ hv=>at_.fr t' v hv,at_.size,at_.plain,hx1⟩
 ·rw [hL0] at hk;cases hk
 ·rw [hL0];simp
 ·rw [hL0] at hl;cases hl
 ·obtain⟨g1,g2,_⟩:=t.a1 i j' p ob hA
  refine⟨?_,by rw [hbn];exact g2⟩
  cases hg:(T.Bs 0).get p with
  |none=>rfl
  |some o'=>
   rw [hB0] at hg
   obtain⟨L,hL,_⟩:=at_.rel.ob p o' hg
   have:=at_.rel.lt_next hL
   omega
 ·obtain⟨g1,g2,_⟩:=t.a1 i j' p ob hA
  exact at_.rel.fresh p g1
 ·rw [hL0] at hl;cases hl
theorem NJ(S:Static ops Ed sb G N plan)(A:Made T ops Ed plan h.next)(hst:∀i c j,(i,c,j)∈phased 0 plan→fF P e ops sb fr T i c j)(at_:At keep G N Df M fr h a w)(hne:out≠ .bad)
  (hfin:jo keep T.E (fun fr=>.nor fr (T.Cs (aU plan))) ops.toList fr=out):
  ∀L M' f j a' w',Inv T ops Ed plan keep fr G N Df M h w L M' f j a' w'→(∀i,i<ops.size→L.getD i false=true)→eP keep G N Df M h w out .normal a' w':=by
 intro L M' f j a' w' I hall
 obtain⟨fr',hk,hfr⟩:=wX hne hfin
 have hj:j=aU plan:=by
  rcases Nat.lt_or_ge j (aU plan) with h1|h1
  ·obtain⟨i2,hp2,hi2⟩:=S.heavyAt j h1
   have:=(I.ph i2 j hp2).1 (hall i2 hi2)
   omega
  ·have:=I.jle;omega
 subst hj
 have hlt:∀{i c j'},(i,c,j')∈phased 0 plan→i<ops.size:=fun{i c j'} hp=>by
  obtain⟨o,ho,_⟩:=hst i c j' hp
  exact(Array.getElem?_eq_some_iff.1 ho).1
 have hC:∀x,(T.Cs (aU plan)).get x=f.get x:=fun x=>by
  by_cases hx:∃i ob,(i,aU plan,x,ob)∈T.A
  ·obtain⟨i,ob,hA⟩:=hx
   obtain⟨_,g2,g3,_⟩:=A.a1 _ _ _ _ hA
   rw [g3,I.f1 _ _ _ _ hA (hall i (hlt g2)) (Nat.le_refl _)]
   rw [lD (b:=fun _=>true) (b':=fun k=>L.getD k false) fun y hy _ _=>by
    obtain⟨i2,j2,p2,x2,y2⟩:=y
    obtain⟨a2,k1,_⟩:=A.i1 _ _ _ _ _ hy
    exact(hall i2 (hlt k1)).symm]
  ·rw [(A.ct _).1 x (fun i ob hA=>hx ⟨i,ob,hA⟩)]
   refine(I.f2 x fun i j' ob hA _ hj'=>?_).symm
   obtain⟨_,g2,_⟩:=A.a1 _ _ _ _ hA
   have:=(jc g2).1
   have hje:j'=aU plan:=by omega
   subst hje
   exact hx ⟨i,ob,hA⟩
 have hCn:(T.Cs (aU plan)).next=f.next:=by rw [(A.ct _).2,I.nx]
 rw [←hk]
 refine⟨M',⟨I.rel.congr hC hCn,fun t' v hv=>?_,I.size,I.plain⟩,I.ext.congr hC hCn⟩
 rcases hfr t' v hv with⟨o,ho,hd,hkp,hE'⟩|⟨hno,hold⟩
 ·obtain⟨i,hi,hio⟩:=List.getElem_of_mem ho
  have hi':i<ops.size:=by simpa using hi
  have hoi:ops[i]?=some o:=by rw [Array.getElem?_eq_getElem hi'];rw [←hio];simp
  exact⟨hkp,I.e1 i o t' v (hall i hi') hoi hd hE'⟩
 ·refine I.e2 t' v (fun i o _ ho hd=>?_) hold
  have h1:=hno o (by have:=Array.mem_of_getElem? ho;simpa using this) hd
  have h2:=(at_.fr t' v hold).1
  rw [h1] at h2;cases h2
end
end Go.Vm
namespace Go.Vm
noncomputable section
variable{P:Program}{e:FuncId→Option Fun}{Ed Ed':Nat→Nat→Prop}{ops:Array Oper}{sb:Nat→Nat→Bool}{fr:F}{keep:Nat→Bool}{G N:Nat}{Df:List Deferred}
variable{T:Tr}{plan pre:Plan}{M₀ M:Mp}{h h₀ f:Hp}{w₀ w:World}{L:Array Bool}{j:Nat}{a:Act}{i x y:Nat}{out:Out}{k:Env→Hp→Out}
def EdP(ops:Array Oper)(x y:Nat):Nat→Nat→Prop:=fun j i=>Edge ops j i∨(j=x∧i=y)
def sbP(sb:Nat→Nat→Bool)(x y:Nat)(j i:Nat):Bool:=sb j i||(Nat.beq j x&&Nat.beq i y)
theorem Bef.mono(hE:∀j i,Ed j i→Ed' j i){j i:Nat}(h:Bef Ed j i):Bef Ed' j i:=by
 induction h with
 |one h=>exact .one (hE _ _ h)
 |step _ h ih=>exact .step ih (hE _ _ h)
theorem He(l r:Plan):∀j₀,phased j₀ (l++r)=phased j₀ l++phased (j₀+aU l) r:=by
 induction l with
 |nil=>intro j₀;simp [phased,aU]
 |cons z l ih=>
  obtain⟨i,c⟩:=z
  intro j₀
  cases c<;>simp [phased,aU,ih,Nat.add_assoc,Nat.add_comm 1]
theorem Eg(l r:Plan):aU (l++r)=aU l+aU r:=by
 induction l with
 |nil=>simp [aU]
 |cons z l ih=>
  obtain⟨i,c⟩:=z
  cases c<;>simp [aU,ih]<;>omega
def pl2(pre:Plan)(x y:Nat):Plan:=pre++ [(x,.heavy),(y,.heavy)]
theorem jC{c:Cls}:(i,c,j)∈phased 0 (pl2 pre x y)↔(i,c,j)∈phased 0 pre∨(i=x∧c=.heavy∧j=aU pre)∨(i=y∧c=.heavy∧j=aU pre+1):=by
 unfold pl2
 rw [He]
 simp [phased]
theorem J3:aU (pl2 pre x y)=aU pre+2:=by unfold pl2;rw [Eg];simp [aU]
theorem Ar{α:Type}{g:Hp}{p:Pos}{wr:Wr}{cs:List V}(hq:(g.get p).bind Ob.row=some (wr,cs))(k:Wr→List V→R α):dL g p k=k wr cs:=by
 unfold dL
 cases hg:g.get p with
 |none=>rw [hg] at hq;cases hq
 |some o=>
  rw [hg] at hq
  cases o with
  |cells w l=>cases hq;rfl
  |bytes l=>cases hq;rfl
  |_=>cases hq
theorem Fv{sz:Nat}{a z:V}{h h':Hp}{r:V}(e0:cZ sz a z h=.ok r h'):∃p o ob,a=.ptr p o∧h'=h.put p (some ob)∧∀g:Hp,g.get p=h.get p→cZ sz a z g=.ok r (g.put p (some ob)):=by
 unfold cZ at e0
 obtain⟨p,o,rfl,e1⟩:=fO e0
 obtain⟨wr,cs,hg,e2⟩:=dG e1
 split at e2
 ·rename_i t fl hn hb
  split at e2
  ·rename_i cs' hp
   cases e2
   refine⟨p,o,_,rfl,rfl,fun g hgg=>?_⟩
   have hq:(g.get p).bind Ob.row=some (.rw t fl,cs):=by rw [hgg];exact hg
   show dL g p _=_
   rw [Ar hq]
   simp only [hn,hb,hp]
  ·cases e2
 ·rename_i hn hb
  unfold qg at e2
  split at e2
  ·rename_i b hbg
   split at e2
   ·rename_i cs0
    split at e2
    ·rename_i cs' hp
     cases e2
     refine⟨p,o,_,rfl,rfl,fun g hgg=>?_⟩
     have hq:(g.get p).bind Ob.row=some (.ro,cs):=by rw [hgg];exact hg
     show dL g p _=_
     rw [Ar hq]
     simp only [hn,hb]
     unfold qg
     rw [hgg,hbg]
     simp only [hp]
    ·cases e2
   ·cases e2
  ·cases e2
 ·cases e2
theorem abj{s1 s2:Nat}{a1 z1 a2 z2:V}{h h1 c1 h2:Hp}{r1 r2:V}(e1:cZ s1 a1 z1 h=.ok r1 h1)(hc:∀p,c1.get p=h1.get p)(hn:c1.next=h1.next)(e2:cZ s2 a2 z2 c1=.ok r2 h2)
  {p1 p2:Pos} {o1 o2:Nat} (ha1:a1=.ptr p1 o1) (ha2:a2=.ptr p2 o2) (hne:p1≠p2):
  ∃g1 g2,cZ s2 a2 z2 h=.ok r2 g1∧cZ s1 a1 z1 g1=.ok r1 g2∧(∀p,g2.get p=h2.get p)∧g2.next=h2.next:=by
 obtain⟨p,o,ob1,ea,rfl,F1⟩:=Fv e1
 obtain⟨q,o',ob2,eb,rfl,F2⟩:=Fv e2
 rw [ha1] at ea;cases ea
 rw [ha2] at eb;cases eb
 have h3:=F2 h (by rw [hc,Hp.aY _ (Ne.symm hne)])
 have h4:=F1 (h.put p2 (some ob2)) (by rw [Hp.aY _ hne])
 refine⟨_,_,h3,h4,fun x=>?_,?_⟩
 ·by_cases e1:x=p1
  ·subst e1
   rw [Hp.bC,Hp.aY _ hne,hc,Hp.bC]
  ·rw [Hp.aY _ e1]
   by_cases e2:x=p2
   ·subst e2
    rw [Hp.bC,Hp.bC]
   ·rw [Hp.aY _ e2,Hp.aY _ e2,hc,Hp.aY _ e1]
 ·show h.next=c1.next
  rw [hn];rfl
def jr(T:Tr)(k:Nat)(b1 b2:Hp):Tr:=
 {T with Bs:=fun j=>if j=k+1 then b1 else if j=k+2 then b2 else T.Bs j,Cs:=fun j=>if j=k+1 then b1 else if j=k+2 then b2 else T.Cs j}
theorem rq{k:Nat}{b1 b2:Hp}(hj:j≤k):(jr T k b1 b2).Bs j=T.Bs j:=by
 show(if j=k+1 then b1 else if j=k+2 then b2 else T.Bs j)=_
 rw [if_neg (by omega),if_neg (by omega)]
theorem vX{k:Nat}{b1 b2:Hp}(hj:j≤k):(jr T k b1 b2).Cs j=T.Cs j:=by
 show(if j=k+1 then b1 else if j=k+2 then b2 else T.Cs j)=_
 rw [if_neg (by omega),if_neg (by omega)]
theorem YP{k:Nat}{b1 b2:Hp}:(jr T k b1 b2).Bs (k+1)=b1:=by simp [jr]
theorem YN{k:Nat}{b1 b2:Hp}:(jr T k b1 b2).Cs (k+1)=b1:=by simp [jr]
theorem YO{k:Nat}{b1 b2:Hp}:(jr T k b1 b2).Bs (k+2)=b2:=by simp [jr]
theorem YM{k:Nat}{b1 b2:Hp}:(jr T k b1 b2).Cs (k+2)=b2:=by simp [jr]
theorem fF.alt{k:Nat}{b1 b2:Hp}{c:Cls}(hj:j≤k)(hh:c=.heavy→j<k)(s:fF P e ops sb fr T i c j):fF P e ops sb fr (jr T k b1 b2) i c j:=by
 obtain⟨o,ho,hs⟩:=s
 refine⟨o,ho,?_⟩
 rcases hs with⟨hg,vs,v,h1,h2,h3⟩|⟨hg,h1,h2⟩
 ·refine .inl ⟨hg,vs,v,h1,h2,?_⟩
  cases c with
  |pure=>exact h3
  |read cnt=>exact⟨h3.1,fun j' a b=>by rw [rq (by omega)];exact h3.2 j' a b⟩
  |alloc=>exact h3
  |heavy=>
   have:=hh rfl
   show dY P e o.op vs _=_
   rw [vX hj,rq (by omega)]
   exact h3
  |own x=>obtain⟨u,p,h',q1,q2,q3,q4⟩:=h3;exact⟨u,p,h',q1,q2,q3,by rw [vX hj];exact q4⟩
  |ins x=>exact h3
 ·refine .inr ⟨hg,h1,fun hc=>?_⟩
  have:=hh hc
  rw [vX hj,rq (by omega)]
  exact h2 hc
def at7(ops:Array Oper)(x:Nat):Prop:=∃o t av zv,ops[x]?=some o∧o.guard=none∧o.dst=none∧o.op=.store t av zv
theorem aa8{o:Oper}{t:TypeId}{av zv:Operand}(ho:ops[x]?=some o)(hg:o.guard=none)(hd:o.dst=none)(hop:o.op=.store t av zv)(s:fF P e ops sb fr T x .heavy j):
  ∃ti u z v,P.info? t=some ti∧pF ops sb fr T.E x o.op.operands.toList [u,z]∧cZ ti.size u z (T.Cs j)=.ok v (T.Bs (j+1)):=by
 obtain⟨o',ho',hs⟩:=s
 rw [ho] at ho';cases ho'
 rcases hs with⟨_,vs,v,h1,_,h3⟩|⟨⟨g,b,d,hg',_⟩,_⟩
 ·have h3:dY P e o.op vs (T.Cs j)=.ok v (T.Bs (j+1)):=h3
  rw [hop] at h3
  obtain⟨u,z,rfl,e0⟩:=pU h3
  split at e0
  ·rename_i ti hti
   exact⟨ti,u,z,v,hti,h1,e0⟩
  ·cases e0
 ·rw [hg] at hg';cases hg'
theorem avC{o:Oper}{t:TypeId}{av zv:Operand}{ti:TypeInfo}{u z v:V}(ho:ops[x]?=some o)(hg:o.guard=none)(hd:o.dst=none)(hop:o.op=.store t av zv)(hti:P.info? t=some ti)
  (h1:pF ops sb fr T.E x o.op.operands.toList [u,z]) (h2:cZ ti.size u z (T.Cs j)=.ok v (T.Bs (j+1))):fF P e ops sb fr T x .heavy j:=by
 refine⟨o,ho,.inl ⟨.inl hg,[u,z],v,h1,fun d hx=>(by rw [hd] at hx;cases hx),?_⟩⟩
 show dY P e o.op [u,z] (T.Cs j)=_
 rw [hop]
 show(match P.info? t with|some ti=>cZ ti.size u z (T.Cs j)|none=>.bad)=_
 rw [hti]
 exact h2
section
variable{b1 b2:Hp}
theorem am6(SA:Static ops (EdP ops x y) sb G N (pl2 pre x y))(SB:Static ops (EdP ops y x) sb G N (pl2 pre y x)){q:Pos}(A:Made T ops (EdP ops x y) (pl2 pre x y) q):
  Made (jr T (aU pre) b1 b2) ops (EdP ops y x) (pl2 pre y x) q:=by
 have inpre:∀{i c j},(i,c,j)∈phased 0 (pl2 pre x y)→c≠ .heavy→(i,c,j)∈phased 0 pre∧j≤aU pre:=fun{i c j} hm hc=>by
  rcases jC.1 hm with h|⟨_,h,_⟩|⟨_,h,_⟩
  ·have:=(jc h).1
   exact⟨h,by omega⟩
  ·exact absurd h hc
  ·exact absurd h hc
 refine⟨fun i j p ob hA=>?_,A.a2,A.a3,fun j=>?_,fun i j p u v hI=>?_,A.i2,A.i4⟩
 ·obtain⟨g1,g2,g3,g4⟩:=A.a1 i j p ob hA
  obtain⟨k1,k2⟩:=inpre g2 (by simp)
  exact⟨g1,jC.2 (.inl k1),by rw [vX k2];exact g3,g4⟩
 ·by_cases e1:j=aU pre+1
  ·subst e1
   rw [YP,YN]
   exact⟨fun _ _=>rfl,rfl⟩
  ·by_cases e2:j=aU pre+2
   ·subst e2
    rw [YO,YM]
    exact⟨fun _ _=>rfl,rfl⟩
   ·have hC:(jr T (aU pre) b1 b2).Cs j=T.Cs j:=by
     show(if j=aU pre+1 then b1 else if j=aU pre+2 then b2 else T.Cs j)=_
     rw [if_neg e1,if_neg e2]
    have hB:(jr T (aU pre) b1 b2).Bs j=T.Bs j:=by
     show(if j=aU pre+1 then b1 else if j=aU pre+2 then b2 else T.Bs j)=_
     rw [if_neg e1,if_neg e2]
    rw [hC,hB]
    exact A.ct j
 ·obtain⟨a,g1,g2,_,g4⟩:=A.i1 i j p u v hI
  obtain⟨k1,_⟩:=inpre g1 (by simp)
  have hm:(i,Cls.ins a,j)∈phased 0 (pl2 pre y x):=jC.2 (.inl k1)
  exact⟨a,hm,g2,(SB.insA i a j hm).2.1,g4⟩
theorem Inv.swap(I:Inv T ops (EdP ops x y) (pl2 pre x y) keep fr G N Df M₀ h₀ w₀ L M f j a w)(hx:L.getD x false=false)(hy:L.getD y false=false):
  Inv (jr T (aU pre) b1 b2) ops (EdP ops y x) (pl2 pre y x) keep fr G N Df M₀ h₀ w₀ L M f j a w:=by
 have hj:j≤aU pre:=by
  have:=I.ph x (aU pre) (jC.2 (.inr (.inl ⟨rfl,rfl,rfl⟩)))
  rw [hx] at this
  rcases Nat.lt_or_ge (aU pre) j with h|h
  ·have:=this.2 h;cases this
  ·exact h
 refine⟨I.lsize,fun i k hk hl=>?_,by rw [J3];omega,fun i j' hm=>?_,I.rel,by rw [rq hj];exact I.nx,I.f1,fun p hp=>by rw [rq hj];exact I.f2 p hp,fun i j' p ob h1 h2=>by rw [rq hj];exact I.f3 i j' p ob h1 h2,I.un,I.e1,I.e2,I.size,I.plain,I.ext⟩
 ·rcases hk with hk|⟨rfl,rfl⟩
  ·exact I.down i k (.inl hk) hl
  ·rw [hx] at hl;cases hl
 ·rcases jC.1 hm with h|⟨rfl,_,rfl⟩|⟨rfl,_,rfl⟩
  ·exact I.ph i j' (jC.2 (.inl h))
  ·rw [hy];constructor
   ·intro h;cases h
   ·intro h;omega
  ·rw [hx];constructor
   ·intro h;cases h
   ·intro h;omega
end
theorem aUe(hE:∀f F,e f=some F→aj P G f F)(back:∀j i,Edge ops j i→j<i)(hxy:x≠y){b1 b2:Hp}{M₀:Mp}{w₀:World}
  (SA:Static ops (EdP ops x y) sb G N (pl2 pre x y)) (SB:Static ops (EdP ops y x) sb G N (pl2 pre y x))
  (A:Made T ops (EdP ops x y) (pl2 pre x y) h₀.next) (B:Made (jr T (aU pre) b1 b2) ops (EdP ops y x) (pl2 pre y x) h₀.next)
  (stA:∀i c j,(i,c,j)∈phased 0 (pl2 pre x y)→fF P e ops sb fr T i c j) (stB:∀i c j,(i,c,j)∈phased 0 (pl2 pre y x)→fF P e ops sb fr (jr T (aU pre) b1 b2) i c j)
  {Q:Exit→Act→World→Prop}
  (finA:∀L M f j a w,Inv T ops (EdP ops x y) (pl2 pre x y) keep fr G N Df M₀ h₀ w₀ L M f j a w→(∀i,i<ops.size→L.getD i false=true)→Q .normal a w)
  (finB:∀L M f j a w,Inv (jr T (aU pre) b1 b2) ops (EdP ops y x) (pl2 pre y x) keep fr G N Df M₀ h₀ w₀ L M f j a w→(∀i,i<ops.size→L.getD i false=true)→Q .normal a w):
  ∀(fuel:Nat) (L:Array Bool) (M:Mp) (f:Hp) (j:Nat) (a:Act) (w:World),left L≤fuel→
   (Inv T ops (EdP ops x y) (pl2 pre x y) keep fr G N Df M₀ h₀ w₀ L M f j a w∨(Inv (jr T (aU pre) b1 b2) ops (EdP ops y x) (pl2 pre y x) keep fr G N Df M₀ h₀ w₀ L M f j a w∧L.getD y false=true))→
   wpAny P .any ops Q fuel L a w:=by
 intro fuel
 induction fuel with
 |zero=>
  intro L M f j a w hl I
  have hsz:L.size=ops.size:=by rcases I with I|⟨I,_⟩<;>exact I.lsize
  have hall:∀i,i<ops.size→L.getD i false=true:=fun i hi=>FW (by omega) (by rw [hsz];exact hi)
  refine⟨?_,?_⟩
  ·apply List.eq_nil_iff_forall_not_mem.2
   intro i hi
   have R:=sD hsz hi
   have:=hall i R.lt
   rw [R.no] at this;cases this
  ·rcases I with I|⟨I,_⟩
   ·exact finA L M f j a w I hall
   ·exact finB L M f j a w I hall
 |succ fuel ih=>
  intro L M f j a w hl I
  have hsz:L.size=ops.size:=by rcases I with I|⟨I,_⟩<;>exact I.lsize
  refine⟨fun hr=>?_,fun i hi=>?_⟩
  ·have hall:∀i,i<ops.size→L.getD i false=true:=fun i=>by
    induction i using Nat.strongRecOn with
    |_ i ihi=>
     intro hi
     cases hv:L.getD i false with
     |true=>rfl
     |false=>
      exfalso
      have:i∈Region.ready .any ops L:=IV hsz hi hv fun k hk=>ihi k (back k i hk) (by have:=back k i hk;omega)
      rw [hr] at this;cases this
   rcases I with I|⟨I,_⟩
   ·exact finA L M f j a w I hall
   ·exact finB L M f j a w I hall
  ·have R:=sD hsz hi
   have hlt:=JW (by rw [hsz];exact R.lt) R.no
   rcases I with I|⟨I,hLy⟩
   ·by_cases hc:i=y∧L.getD x false=false
    ·obtain⟨rfl,hx⟩:=hc
     have I':=I.swap (b1:=b1) (b2:=b2) hx R.no
     have R':Ready ops (EdP ops i x) L i:=⟨R.lt,R.no,fun k hk=>by
      rcases hk with hk|⟨_,hk⟩
      ·exact R.edge k hk
      ·exact absurd hk.symm hxy⟩
     refine wpOp_mono ?_ (I'.step hE SB B stB R' (Q:=Q))
     rintro a' w' ⟨M',f',j',I2⟩
     refine ih _ M' f' j' a' w' (by omega) (.inr ⟨I2,?_⟩)
     rw [bP L (by rw [hsz];exact R.lt),if_pos rfl]
    ·have R':Ready ops (EdP ops x y) L i:=⟨R.lt,R.no,fun k hk=>by
      rcases hk with hk|⟨rfl,rfl⟩
      ·exact R.edge k hk
      ·cases hv:L.getD k false with
       |true=>rfl
       |false=>exact absurd ⟨rfl,hv⟩ hc⟩
     refine wpOp_mono ?_ (I.step hE SA A stA R' (Q:=Q))
     rintro a' w' ⟨M',f',j',I2⟩
     exact ih _ M' f' j' a' w' (by omega) (.inl I2)
   ·have R':Ready ops (EdP ops y x) L i:=⟨R.lt,R.no,fun k hk=>by
     rcases hk with hk|⟨rfl,rfl⟩
     ·exact R.edge k hk
     ·exact hLy⟩
    refine wpOp_mono ?_ (I.step hE SB B stB R' (Q:=Q))
    rintro a' w' ⟨M',f',j',I2⟩
    refine ih _ M' f' j' a' w' (by omega) (.inr ⟨I2,?_⟩)
    rw [bP L (by rw [hsz];exact R.lt)]
    split
    ·rfl
    ·exact hLy
end
end Go.Vm
namespace Go.Vm
noncomputable section
variable{P:Program}{e:FuncId→Option Fun}{ops:Array Oper}{sb:Nat→Nat→Bool}{fr:F}{keep:Nat→Bool}{G N:Nat}{Df:List Deferred}
variable{T:Tr}{plan pre:Plan}{h:Hp}{i x y:Nat}{out:Out}
def posOf(v:V):Option Pos:=match v with
 | .ptr p _=>some p
 |_=>none
def wL(ops:Array Oper)(sb:Nat→Nat→Bool)(fr:F)(E:Env)(x:Nat):Option Pos:=match ops[x]? with
 |some o=>(match o.op with
  | .store _ a _=>(match a with
   | .tmp t=>(match lM ops sb x t with
    |true=>(match aZ t E with|some v=>posOf v|none=>none)
    |false=>(match fr.get (Pos.of t) with|some v=>posOf v|none=>none))
   |_=>none)
  |_=>none)
 |none=>none
def NP(ops:Array Oper)(sb:Nat→Nat→Bool)(fr:F)(E:Env)(x y:Nat):Bool:=match wL ops sb fr E x with
 |some p=>(match wL ops sb fr E y with
  |some q=>(match p.eq q with|true=>false|false=>true)
  |none=>false)
 |none=>false
theorem Jc{v:V}{p:Pos}(h:posOf v=some p):∃o,v=.ptr p o:=by
 unfold posOf at h
 split at h
 ·cases h;exact⟨_,rfl⟩
 ·cases h
theorem FD{E:Env}{o:Oper}{t:TypeId}{av zv:Operand}{u z:V}{p:Pos}(ho:ops[x]?=some o)(hop:o.op=.store t av zv)(hs:pF ops sb fr E x o.op.operands.toList [u,z])(hp:wL ops sb fr E x=some p):
  ∃q,u=.ptr p q:=by
 rw [hop] at hs
 obtain⟨u',us,e1,hu,-⟩:=hs
 cases e1
 unfold wL at hp
 rw [ho] at hp
 simp only [hop] at hp
 split at hp
 ·rename_i t'
  rcases hu with⟨h1,h2⟩|⟨h1,h2⟩
  ·rw [h1] at hp
   simp only [h2] at hp
   exact Jc hp
  ·rw [h1] at hp
   simp only [h2] at hp
   exact Jc hp
 ·cases hp
theorem ayQ{E:Env}(h:NP ops sb fr E x y=true):∃p q,wL ops sb fr E x=some p∧wL ops sb fr E y=some q∧p≠q:=by
 unfold NP at h
 split at h
 ·rename_i p hp
  split at h
  ·rename_i q hq
   split at h
   ·cases h
   ·rename_i hpq
    exact⟨p,q,hp,hq,Pos.eq_false.1 hpq⟩
  ·cases h
 ·cases h
def H8(P:Program)(keep:Nat→Bool)(e:FuncId→Option Fun)(ops:Array Oper)(sb:Nat→Nat→Bool)(pre:Plan)(x y:Nat)(fr:F)(h:Hp):Out:=
 jJ P e ops sb fr (fun E h=>match NP ops sb fr E x y with|true=>jo keep E (fun fr=>.nor fr h) ops.toList fr|false=>.bad) (pl2 pre x y) [] ⟨h.t,bump (fA (pl2 pre x y)) h.next⟩ ⟨h.t,bump (fA (pl2 pre x y)) h.next⟩ [] h.next
theorem tH{E:Env}:∀(l:List Oper) (fr:F) {H:Hp},jo keep E (fun fr=>.nor fr H) l fr≠ .bad→∃fr',∀H',jo keep E (fun fr=>.nor fr H') l fr=.nor fr' H'
 | [],fr,H,_=>⟨fr,fun _=>rfl⟩
 |o::l,fr,H,hne=>by
  unfold jo at hne
  cases hd:o.dst with
  |none=>
   rw [hd] at hne
   obtain⟨fr',h⟩:=tH l fr hne
   exact⟨fr',fun H'=>by unfold jo;rw [hd];exact h H'⟩
  |some d=>
   rw [hd] at hne
   cases hk:keep d with
   |false=>
    simp only [hk] at hne
    obtain⟨fr',h⟩:=tH l fr hne
    exact⟨fr',fun H'=>by unfold jo;rw [hd];simp only [hk];exact h H'⟩
   |true=>
    simp only [hk] at hne
    cases hv:aZ d E with
    |none=>rw [hv] at hne;exact absurd rfl hne
    |some v=>
     rw [hv] at hne
     obtain⟨fr',h⟩:=tH l _ hne
     exact⟨fr',fun H'=>by unfold jo;rw [hd];simp only [hk,hv];exact h H'⟩
theorem bG.pair(hm:P.follows .mixedOrders=true)(hE:∀f F,e f=some F→aj P G f F){id:Nat}(hnd:∀o∈ops.toList,∀c,o.op≠ .defer c)(back:∀j i,Edge ops j i→j<i)(hxy:x≠y)
  (SA:Static ops (EdP ops x y) sb G N (pl2 pre x y)) (SB:Static ops (EdP ops y x) sb G N (pl2 pre y x)) (hx:at7 ops x) (hy:at7 ops y):bG P keep G N (.region id ops true) (H8 P keep e ops sb pre x y):=by
 intro ro n Df fr h M a w hne at_
 refine zS hm eP.abI hnd ?_
 generalize hout:H8 P keep e ops sb pre x y fr h=out at hne
 obtain⟨T,t⟩:=jh hne (pl2 pre x y) [] _ _ [] [] h.next SA.nodup rfl hout
 have A:=ajX SA t
 have I0:=ags SA t at_
 have hfin:=t.out
 simp only [List.length_nil,Nat.zero_add] at hfin
 have hdis:NP ops sb fr T.E x y=true:=by
  cases hd:NP ops sb fr T.E x y with
  |true=>rfl
  |false=>rw [hd] at hfin;exact absurd hfin.symm hne
 rw [hdis] at hfin
 have hfin:jo keep T.E (fun fr=>.nor fr (T.Cs (aU (pl2 pre x y)))) ops.toList fr=out:=hfin
 obtain⟨ox,tx,ax,zx,x1,x2,x3,x4⟩:=hx
 obtain⟨oy,ty,ay,zy,y1,y2,y3,y4⟩:=hy
 obtain⟨tix,ux,vx,rx,x5,x6,x7⟩:=aa8 x1 x2 x3 x4 (t.steps x .heavy (aU pre) (jC.2 (.inr (.inl ⟨rfl,rfl,rfl⟩))))
 obtain⟨tiy,uy,vy,ry,y5,y6,y7⟩:=aa8 y1 y2 y3 y4 (t.steps y .heavy (aU pre+1) (jC.2 (.inr (.inr ⟨rfl,rfl,rfl⟩))))
 obtain⟨p,q,hp,hq,hpq⟩:=ayQ hdis
 obtain⟨px,hux⟩:=FD x1 x4 x6 hp
 obtain⟨py,huy⟩:=FD y1 y4 y6 hq
 have noA:∀j,aU pre<j→∀i r ob,(i,j,r,ob)∉T.A:=fun j hj i r ob hA=>by
  obtain⟨_,g2,_,_⟩:=A.a1 i j r ob hA
  rcases jC.1 g2 with h|⟨_,h,_⟩|⟨_,h,_⟩
  ·have:=(jc h).1;omega
  ·cases h
  ·cases h
 have hC1:∀r,(T.Cs (aU pre+1)).get r=(T.Bs (aU pre+1)).get r:=fun r=>(A.ct _).1 r fun i ob=>noA _ (by omega) i r ob
 have hC2:∀r,(T.Cs (aU pre+2)).get r=(T.Bs (aU pre+2)).get r:=fun r=>(A.ct _).1 r fun i ob=>noA _ (by omega) i r ob
 obtain⟨g1,g2,F1,F2,Fg,Fn⟩:=abj x7 hC1 (A.ct _).2 y7 hux huy hpq
 have stB:∀i c j,(i,c,j)∈phased 0 (pl2 pre y x)→fF P e ops sb fr (jr T (aU pre) g1 g2) i c j:=fun i c j hm=>by
  rcases jC.1 hm with hm|⟨rfl,rfl,rfl⟩|⟨rfl,rfl,rfl⟩
  ·have:=jc hm
   exact(t.steps i c j (jC.2 (.inl hm))).alt (by omega) (fun hc=>by have:=this.2 hc;omega)
  ·exact avC y1 y2 y3 y4 y5 y6 (by rw [vX (Nat.le_refl _),YP];exact F1)
  ·exact avC x1 x2 x3 x4 x5 x6 (by rw [YN,YO];exact F2)
 have B:=am6 (b1:=g1) (b2:=g2) SA SB A
 obtain⟨fr',hF⟩:=tH ops.toList fr (by rw [hfin];exact hne)
 have hout':out=.nor fr' (T.Cs (aU pre+2)):=by rw [←hfin,hF,J3]
 refine aUe hE back hxy SA SB A B t.steps stB (NJ SA A t.steps at_ hne hfin) (fun L M' f j a' w' I hall=>?_) ops.size _ M (T.Bs 0) 0 a _ (by unfold left;exact Nat.le_trans List.countP_le_length (by simp)) (.inl I0)
 have:=NJ (out:=.nor fr' g2) SB B stB at_ (by simp) (by
  show jo keep T.E (fun fr=>.nor fr ((jr T (aU pre) g1 g2).Cs (aU (pl2 pre y x)))) ops.toList fr=_
  rw [hF,J3,YM]) L M' f j a' w' I hall
 rw [hout']
 obtain⟨M2,at2,hx2⟩:=this
 have he:∀r,(T.Cs (aU pre+2)).get r=g2.get r:=fun r=>by rw [hC2,Fg]
 have hn:(T.Cs (aU pre+2)).next=g2.next:=by rw [(A.ct _).2,Fn]
 exact⟨M2,⟨at2.rel.congr he hn,at2.fr,at2.size,at2.plain⟩,hx2.congr he hn⟩
end
end Go.Vm
namespace Go.Vm
noncomputable section
variable{P:Program}{e:FuncId→Option Fun}{ops:Array Oper}{keep:Nat→Bool}{G N:Nat}
def aua:Plan→Option (Plan×Nat×Nat)
 | []=>none
 |z::l=>(match aua l with
  |some (pre,x,y)=>some (z::pre,x,y)
  |none=>(match l with
   | []=>none
   |z'::l'=>(match l' with
    | []=>some ([],z.1,z'.1)
    |_::_=>none)))
def HY(ops:Array Oper)(x:Nat):Bool:=match ops[x]? with
 |some o=>(match o.guard,o.dst,o.op with
  |none,none,.store _ _ _=>true
  |_,_,_=>false)
 |none=>false
theorem JX{x:Nat}(h:HY ops x=true):at7 ops x:=by
 unfold HY at h
 split at h
 ·rename_i o ho
  split at h
  ·rename_i t av zv h1 h2 h3
   exact⟨o,t,av,zv,ho,h1,h2,h3⟩
  ·cases h
 ·cases h
def uZ(ops:Array Oper)(ms:List Nat)(G N:Nat)(pre:Plan)(x y:Nat):Bool:=
 qP ops ms&&(wM ops (jE ms) (sbP (jE ms) x y) G N (pl2 pre x y)&&(wM ops (jE ms) (sbP (jE ms) y x) G N (pl2 pre y x)&&(HY ops x&&(HY ops y&&!(Nat.beq x y)))))
theorem UE{ms:List Nat}(h1:qP ops ms=true){x y i j:Nat}(hi:i<ops.size)(h:sbP (jE ms) x y j i=true):Bef (EdP ops x y) j i:=by
 unfold sbP at h
 rw [Bool.or_eq_true] at h
 rcases h with h|h
 ·exact(fQ h1 hi h).mono fun _ _ h=>.inl h
 ·rw [Bool.and_eq_true] at h
  exact .one (.inr ⟨Nat.eq_of_beq_eq_true h.1,Nat.eq_of_beq_eq_true h.2⟩)
theorem avW(hm:P.follows .mixedOrders=true)(hE:∀f F,e f=some F→aj P G f F){id:Nat}(hnd:∀o∈ops.toList,∀c,o.op≠ .defer c){ms:List Nat}{pre:Plan}{x y:Nat}(h:uZ ops ms G N pre x y=true):
  bG P keep G N (.region id ops true) (H8 P keep e ops (jE ms) pre x y):=by
 simp only [uZ,Bool.and_eq_true,Bool.not_eq_true'] at h
 obtain⟨h1,h2,h3,h4,h5,h6⟩:=h
 refine bG.pair hm hE hnd (fun j i he=>sO h1 he) (Nat.ne_of_beq_eq_false h6) ?_ ?_ (JX h4) (JX h5)
 ·exact Fz (fun hi hs=>(fQ h1 hi hs).mono fun _ _ h=>.inl h) (fun hi hs=>UE h1 hi hs) h2
 ·exact Fz (fun hi hs=>(fQ h1 hi hs).mono fun _ _ h=>.inl h) (fun hi hs=>UE h1 hi hs) h3
def Hr(P:Program)(G N:Nat)(keep:Nat→Bool)(e:FuncId→Option Fun)(ops:Array Oper)(ms:List Nat)(plan:Plan):F→Hp→Out:=match aua plan with
 |some (pre,x,y)=>(match uZ ops ms G N pre x y with|true=>H8 P keep e ops (jE ms) pre x y|false=>fun _ _=>.bad)
 |none=>fun _ _=>.bad
theorem Jf(hm:P.follows .mixedOrders=true)(hE:∀f F,e f=some F→aj P G f F){id:Nat}(hnd:∀o∈ops.toList,∀c,o.op≠ .defer c){ms:List Nat}{plan:Plan}:
  bG P keep G N (.region id ops true) (Hr P G N keep e ops ms plan):=by
 unfold Hr
 split
 ·split
  ·rename_i h;exact avW hm hE hnd h
  ·exact .bad
 ·exact .bad
end
end Go.Vm
namespace Go.Vm
noncomputable section
variable{P:Program}{G N:Nat}{keep:Nat→Bool}{e:FuncId→Option Fun}{ops:Array Oper}
def iy(t:Nat):List Nat→Bool
 | []=>false
 |u::l=>(match Nat.beq t u with|true=>true|false=>iy t l)
theorem yH{t:Nat}:∀{l:List Nat},iy t l=true↔t∈l
 | []=>by simp [iy]
 |u::l=>by
  simp only [iy]
  split
  ·rename_i h;simp [Nat.eq_of_beq_eq_true h]
  ·rename_i h;simp [yH,Nat.ne_of_beq_eq_false h]
def xu(d:Option Nat)(us:List Nat):List Nat:=match d with
 |none=>us
 |some d=>us.filter fun u=>not (Nat.beq u d)
def qx(d:Option Nat)(us:List Nat):List Nat:=match d with
 |none=>us
 |some d=>d::us
def ifB(v:V)(t f:Out):Out:=match v with| .bool b=>(match b with|true=>t|false=>f)|_=>.bad
def ak(r:R V)(k:V→Hp→Out):Out:=match r with| .ok v h=>k v h| .bad=>.bad
def gtO(o:Option V)(k:V→Out):Out:=match o with|some v=>k v|none=>.bad
def lK(o:Out)(k:F→Hp→Out):Out:=match o with
 | .nor fr h=>k fr h
 | .ret fr h=>.ret fr h
 | .ex i fr h=>.ex i fr h
 | .bad=>.bad
def l9(P:Program)(keep:Nat→Bool)(e:FuncId→Option Fun)(ops:Array Oper):List Oper→List Nat→Env→F→Hp→Out
 | [],_,_,fr,h=>.nor fr h
 |o::l,us,env,fr,h=>(match o.guard with
  |none=>opK P keep e o env fr h (l9 P keep e ops l (xu o.dst us))
  |some (j,b)=>(match (ops[j]?).bind (·.dst) with
   |none=>.bad
   |some d=>(match iy d us with
    |true=>nR keep o.dst V.undef env fr fun env fr=>l9 P keep e ops l (qx o.dst us) env fr h
    |false=>rQ d env fr fun v env=>(match b with
     |true=>ifB v (opK P keep e o ((d,.bool true)::env) fr h (l9 P keep e ops l (xu o.dst us))) (nR keep o.dst V.undef ((d,.bool false)::env) fr fun env fr=>l9 P keep e ops l (qx o.dst us) env fr h)
     |false=>ifB v (nR keep o.dst V.undef ((d,.bool true)::env) fr fun env fr=>l9 P keep e ops l (qx o.dst us) env fr h) (opK P keep e o ((d,.bool false)::env) fr h (l9 P keep e ops l (xu o.dst us)))))))
def LeO(a b:Out):Prop:=a≠ .bad→b=a
theorem LeO.refl(a:Out):LeO a a:=fun _=>rfl
theorem LeO.bad(b:Out):LeO .bad b:=fun h=>absurd rfl h
theorem LeO.trans{a b c:Out}(h:LeO a b)(g:LeO b c):LeO a c:=fun ha=>by have:=h ha;rw [←this];exact g (by rw [this];exact ha)
def EqE(env env':Env):Prop:=∀t,aZ t env=aZ t env'
theorem EqE.refl(env:Env):EqE env env:=fun _=>rfl
theorem EqE.cons{env env':Env}(h:EqE env env')(d:Nat)(v:V):EqE ((d,v)::env) ((d,v)::env'):=fun t=>by rw [eX,eX,h t]
theorem EqE.known{env env':Env}(h:EqE env env'){d:Nat}{v:V}(hd:aZ d env'=some v):EqE ((d,v)::env) env':=fun t=>by
 rw [eX]
 split
 ·rename_i e;subst e;exact hd.symm
 ·exact h t
def kP(us:List Nat)(env:Env):Prop:=∀d∈us,aZ d env=some V.undef
theorem UC{t:Nat}{env env':Env}{fr:F}{k k':V→Env→Out}(he:EqE env env')(hk:∀v env1 env1',EqE env1 env1'→(∀u x,aZ u env=some x→aZ u env1=some x)→aZ t env1=some v→LeO (k v env1) (k' v env1')):LeO (rQ t env fr k) (rQ t env' fr k'):=by
 unfold rQ
 rw [←he t]
 cases hf:aZ t env with
 |some v=>exact hk v env env' he (fun _ _ h=>h) hf
 |none=>
  simp only [gt]
  cases fr.get (Pos.of t) with
  |none=>exact LeO.bad _
  |some v=>
   refine hk v _ _ (he.cons t v) (fun u x hx=>?_) (by rw [eX,if_pos rfl])
   rw [eX,if_neg (fun e=>by subst e;rw [hf] at hx;cases hx)]
   exact hx
theorem avX{x:Operand}{env env':Env}{fr:F}{k k':V→Env→Out}(he:EqE env env')(hk:∀v env1 env1',EqE env1 env1'→(∀u x,aZ u env=some x→aZ u env1=some x)→LeO (k v env1) (k' v env1')):LeO (sG x env fr k) (sG x env' fr k'):=by
 cases x with
 |tmp t=>exact UC he fun v a b h g _=>hk v a b h g
 |const c=>
  simp only [sG]
  split
  ·exact hk _ _ _ he (fun _ _ h=>h)
  ·exact LeO.bad _
 |global g=>exact hk _ _ _ he (fun _ _ h=>h)
 |func f=>exact hk _ _ _ he (fun _ _ h=>h)
theorem Jj{fr:F}:∀{l:List Operand} {env env':Env} {k k':List V→Env→Out} (_:EqE env env') (_:∀vs env1 env1',EqE env1 env1'→(∀u x,aZ u env=some x→aZ u env1=some x)→LeO (k vs env1) (k' vs env1')),LeO (zX l env fr k) (zX l env' fr k')
 | [],_,_,_,_,he,hk=>hk [] _ _ he (fun _ _ h=>h)
 |_::l,_,_,_,_,he,hk=>avX he fun v _ _ h g=>Jj (l:=l) h fun vs _ _ h' g'=>hk (v::vs) _ _ h' fun u x hx=>g' u x (g u x hx)
theorem YB{d:Option Nat}{v:V}{env env':Env}{fr:F}{k k':Env→F→Out}(he:EqE env env')(hk:∀env1 env1' fr,EqE env1 env1'→(∀u x,d≠some u→aZ u env=some x→aZ u env1=some x)→(∀x,d=some x→aZ x env1=some v)→LeO (k env1 fr) (k' env1' fr)):LeO (nR keep d v env fr k) (nR keep d v env' fr k'):=by
 cases d with
 |none=>exact hk _ _ _ he (fun _ _ _ h=>h) (fun x h=>by cases h)
 |some d=>
  have h1:∀u x,some d≠some u→aZ u env=some x→aZ u ((d,v)::env)=some x:=fun u x hu hx=>by rw [eX,if_neg (fun e=>hu (by rw [e]))];exact hx
  have h2:∀x,some d=some x→aZ x ((d,v)::env)=some v:=fun x hx=>by cases hx;rw [eX,if_pos rfl]
  simp only [nR,abT]
  split<;>exact hk _ _ _ (he.cons d v) h1 h2
theorem aEE{o:Oper}{env env':Env}{fr:F}{h:Hp}{k k':Env→F→Hp→Out}(he:EqE env env')(hk:∀env1 env1' fr h,EqE env1 env1'→(∀u x,o.dst≠some u→aZ u env=some x→aZ u env1=some x)→LeO (k env1 fr h) (k' env1' fr h)):LeO (opK P keep e o env fr h k) (opK P keep e o env' fr h k'):=by
 refine Jj he fun vs env1 env1' h1 g1=>?_
 unfold bnd
 cases dY P e o.op vs h with
 |bad=>exact LeO.bad _
 |ok v h2=>exact YB h1 fun a b fr h3 g3 _=>hk a b fr h2 h3 fun u x hu hx=>g3 u x hu (g1 u x hx)
theorem kP.drop{us:List Nat}{env env1:Env}{d:Option Nat}(hu:kP us env)(h:∀u x,d≠some u→aZ u env=some x→aZ u env1=some x):kP (xu d us) env1:=by
 intro t ht
 cases d with
 |none=>exact h t _ (by simp) (hu t ht)
 |some d=>
  simp only [xu,List.mem_filter] at ht
  have hne:t≠d:=by
   intro e;subst e
   have:=ht.2
   simp [Nat.beq_refl] at this
  exact h t _ (fun e=>hne (by cases e;rfl)) (hu t ht.1)
theorem kP.add{us:List Nat}{env env1:Env}{d:Option Nat}(hu:kP us env)(h:∀u x,d≠some u→aZ u env=some x→aZ u env1=some x)(h2:∀x,d=some x→aZ x env1=some V.undef):kP (qx d us) env1:=by
 intro t ht
 cases d with
 |none=>exact h t _ (by simp) (hu t ht)
 |some d=>
  by_cases e:t=d
  ·subst e;exact h2 t rfl
  ·simp only [qx,List.mem_cons,e,false_or] at ht
   exact h t _ (fun e'=>e (by cases e';rfl)) (hu t ht)
theorem kP.known{us:List Nat}{env:Env}{d:Nat}{v:V}(hu:kP us env)(hd:aZ d env=some v):kP us ((d,v)::env):=fun t ht=>by
 rw [eX]
 split
 ·rename_i e;subst e;rw [←hd];exact hu t ht
 ·exact hu t ht
theorem wK:∀(l:List Oper) (us:List Nat) (env env':Env) (fr:F) (h:Hp),kP us env→EqE env env'→LeO (l9 P keep e ops l us env fr h) (jV P keep e ops l env' fr h)
 | [],_,_,_,_,_,_,_=>LeO.refl _
 |o::l,us,env,env',fr,h,hu,he=>by
  have yes:∀env1 env1':Env,kP us env1→EqE env1 env1'→LeO (opK P keep e o env1 fr h (l9 P keep e ops l (xu o.dst us))) (opK P keep e o env1' fr h (jV P keep e ops l)):=fun env1 env1' hu1 he1=>
   aEE he1 fun a b fr h h3 g3=>wK l _ a b fr h (hu1.drop g3) h3
  have no:∀env1 env1':Env,kP us env1→EqE env1 env1'→LeO (nR keep o.dst V.undef env1 fr fun env fr=>l9 P keep e ops l (qx o.dst us) env fr h) (nR keep o.dst V.undef env1' fr fun env fr=>jV P keep e ops l env fr h):=fun env1 env1' hu1 he1=>
   YB he1 fun a b fr h3 g3 g4=>wK l _ a b fr h (hu1.add g3 g4) h3
  rcases hg:o.guard with _|⟨j,b⟩
  ·simp only [l9,jV,hg]
   exact yes env env' hu he
  ·simp only [l9,jV,hg]
   cases hd:(ops[j]?).bind (·.dst) with
   |none=>exact LeO.bad _
   |some d=>
    simp only []
    cases hm:iy d us with
    |true=>
     have hd':aZ d env'=some (.tuple .nil):=by rw [←he d];exact hu d (yH.1 hm)
     simp only [rQ,hd',J4]
     exact no env env' hu he
    |false=>
     refine UC he fun v env1 env1' h1 g1 hv=>?_
     have hu1:kP us env1:=fun t ht=>g1 _ _ (hu t ht)
     have hv':aZ d env1'=some v:=by rw [←h1 d];exact hv
     cases v<;>first|(cases b<;>exact LeO.bad _)|skip
     rename_i c
     cases c<;>cases b
     ·exact yes _ _ (hu1.known hv) (h1.known hv')
     ·exact no _ _ (hu1.known hv) (h1.known hv')
     ·exact no _ _ (hu1.known hv) (h1.known hv')
     ·exact yes _ _ (hu1.known hv) (h1.known hv')
def kG(P:Program)(e:FuncId→Option Fun)(ops:Array Oper)(sb:Nat→Nat→Bool)(fr:F)(k:Env→Hp→Out):Plan→List Nat→Env→Hp→Hp→List Hp→Pos→Out
 | [],_,env,_,cur,_,_=>k env cur
 |(i,c)::l,us,env,base,cur,past,q=>(match ops[i]? with
  |none=>.bad
  |some o=>(match o.guard with
   |none=>jU ops sb fr i env o.op.operands.toList fun vs=>iW P e o c vs base cur past q fun v base cur past q=>jq o.dst v env fun env=>kG P e ops sb fr k l us env base cur past q
   |some (g,b)=>(match (ops[g]?).bind (·.dst) with
    |none=>.bad
    |some d=>(match iy d us with
     |true=>mX c base cur past q fun base cur past q=>jq o.dst V.undef env fun env=>kG P e ops sb fr k l (qx o.dst us) env base cur past q
     |false=>(match aZ d env with
      |none=>.bad
      |some v=>(match b with
       |true=>ifB v
        (jU ops sb fr i ((d,.bool true)::env) o.op.operands.toList fun vs=>iW P e o c vs base cur past q fun v base cur past q=>jq o.dst v ((d,.bool true)::env) fun env=>kG P e ops sb fr k l us env base cur past q)
        (mX c base cur past q fun base cur past q=>jq o.dst V.undef ((d,.bool false)::env) fun env=>kG P e ops sb fr k l (qx o.dst us) env base cur past q)
       |false=>ifB v
        (mX c base cur past q fun base cur past q=>jq o.dst V.undef ((d,.bool true)::env) fun env=>kG P e ops sb fr k l (qx o.dst us) env base cur past q)
        (jU ops sb fr i ((d,.bool false)::env) o.op.operands.toList fun vs=>iW P e o c vs base cur past q fun v base cur past q=>jq o.dst v ((d,.bool false)::env) fun env=>kG P e ops sb fr k l us env base cur past q)))))))
variable{sb:Nat→Nat→Bool}{fr:F}
theorem avY{i:Nat}{env env':Env}{x:Operand}{k k':V→Out}(he:EqE env env')(hk:∀v,LeO (k v) (k' v)):LeO (yD ops sb fr i env x k) (yD ops sb fr i env' x k'):=by
 cases x with
 |tmp t=>
  simp only [yD,←he t]
  split
  ·cases aZ t env with
   |none=>exact LeO.bad _
   |some v=>exact hk v
  ·simp only [gt]
   cases fr.get (Pos.of t) with
   |none=>exact LeO.bad _
   |some v=>exact hk v
 |const c=>
  simp only [yD]
  split
  ·exact hk _
  ·exact LeO.bad _
 |global g=>exact hk _
 |func f=>exact hk _
theorem Jl{i:Nat}{env env':Env}(he:EqE env env'):∀{l:List Operand} {k k':List V→Out},(∀vs,LeO (k vs) (k' vs))→LeO (jU ops sb fr i env l k) (jU ops sb fr i env' l k')
 | [],_,_,hk=>hk []
 |_::l,_,_,hk=>avY he fun v=>Jl he (l:=l) fun vs=>hk (v::vs)
theorem YC{d:Option Nat}{v:V}{env env':Env}{k k':Env→Out}(he:EqE env env')(hk:∀env1 env1',EqE env1 env1'→(∀u x,aZ u env=some x→aZ u env1=some x)→(∀x,d=some x→aZ x env1=some v)→LeO (k env1) (k' env1')):LeO (jq d v env k) (jq d v env' k'):=by
 cases d with
 |none=>exact hk _ _ he (fun _ _ h=>h) (fun x h=>by cases h)
 |some d=>
  simp only [jq,←he d]
  cases hd:aZ d env with
  |some _=>exact LeO.bad _
  |none=>exact hk _ _ (he.cons d v) (fun u x hx=>by rw [eX,if_neg (fun e=>by subst e;rw [hd] at hx;cases hx)];exact hx) (fun x hx=>by cases hx;rw [eX,if_pos rfl])
theorem aj1{m:Hp→R V}{v:V}{k k':Out}(hk:LeO k k'):∀(n:Nat) (l:List Hp),LeO (chk m v k n l) (chk m v k' n l)
 |0,[]=>hk
 |0,_::_=>hk
 |n+1,[]=>hk
 |n+1,g::l=>by
  unfold chk
  split
  ·split
   ·exact aj1 hk n l
   ·exact LeO.bad _
  ·exact LeO.bad _
theorem aya{op:Op}{vs:List V}{base cur:Hp}{q:Pos}{k k':Hp→Out}(hk:∀h,LeO (k h) (k' h)):LeO (yJ P op vs base cur q k) (yJ P op vs base cur q k'):=by
 intro hne
 obtain⟨p,x,y,es,rfl,⟨t,mm,kk,vv,kt,et,d,rfl,h1,h2,h3⟩,h4,h5,h6,h7,h8⟩:=X7 hne rfl
 have key:∀g:Hp→Out,yJ P (.insert t mm kk vv) [.map p,x,y] base cur q g=g (cur.put p (some (.map (es++ [(x,y)])))):=fun g=>by
  simp only [yJ,h1,h2,ang,h3,show Nat.blt p.nat q.nat=true by simpa [Nat.blt_eq] using h4,h5,h6,h7]
 rw [key,key]
 rw [key] at hne
 exact hk _ hne
theorem ayT{o:Oper}{c:Cls}{vs:List V}{base cur:Hp}{past:List Hp}{q:Pos}{k k':V→Hp→Hp→List Hp→Pos→Out}(hk:∀v base cur past q,LeO (k v base cur past q) (k' v base cur past q)):LeO (iW P e o c vs base cur past q k) (iW P e o c vs base cur past q k'):=by
 cases c with
 |pure=>
  simp only [iW]
  split
  ·simp only [bnd];split
   ·exact hk _ _ _ _ _
   ·exact LeO.bad _
  ·exact LeO.bad _
 |read n=>
  simp only [iW]
  split
  ·simp only [bnd];split
   ·exact aj1 (hk _ _ _ _ _) _ _
   ·exact LeO.bad _
  ·exact LeO.bad _
 |alloc=>
  simp only [iW]
  split
  ·exact hk _ _ _ _ _
  ·exact LeO.bad _
 |heavy=>
  simp only [iW,bnd]
  split
  ·exact hk _ _ _ _ _
  ·exact LeO.bad _
 |own a=>
  simp only [iW]
  split
  ·split
   ·unfold amK
    split
    ·split
     ·simp only [bnd];split
      ·exact hk _ _ _ _ _
      ·exact LeO.bad _
     ·exact LeO.bad _
    ·exact LeO.bad _
   ·exact LeO.bad _
  ·exact LeO.bad _
 |ins a=>
  simp only [iW]
  exact aya fun h=>hk _ _ _ _ _
theorem amB{c:Cls}{base cur:Hp}{past:List Hp}{q:Pos}{k k':Hp→Hp→List Hp→Pos→Out}(hk:∀base cur past q,LeO (k base cur past q) (k' base cur past q)):LeO (mX c base cur past q k) (mX c base cur past q k'):=by
 cases c<;>exact hk _ _ _ _
theorem yN{k k':Env→Hp→Out}(hk:∀env env' h,EqE env env'→LeO (k env h) (k' env' h)):∀(l:Plan) (us:List Nat) (env env':Env) (base cur:Hp) (past:List Hp) (q:Pos),kP us env→EqE env env'→LeO (kG P e ops sb fr k l us env base cur past q) (jJ P e ops sb fr k' l env' base cur past q)
 | [],_,env,env',_,cur,_,_,_,he=>hk env env' cur he
 |(i,c)::l,us,env,env',base,cur,past,q,hu,he=>by
  cases ho:ops[i]? with
  |none=>simp only [kG,ho];exact LeO.bad _
  |some o=>
   have yes:∀env1 env1':Env,kP us env1→EqE env1 env1'→LeO (jU ops sb fr i env1 o.op.operands.toList fun vs=>iW P e o c vs base cur past q fun v base cur past q=>jq o.dst v env1 fun env=>kG P e ops sb fr k l us env base cur past q)
     (jU ops sb fr i env1' o.op.operands.toList fun vs=>iW P e o c vs base cur past q fun v base cur past q=>jq o.dst v env1' fun env=>jJ P e ops sb fr k' l env base cur past q):=fun env1 env1' hu1 he1=>
    Jl he1 fun vs=>ayT fun v base cur past q=>YC he1 fun a b h3 g3 _=>yN hk l us a b base cur past q (fun t ht=>g3 _ _ (hu1 t ht)) h3
   have no:∀env1 env1':Env,kP us env1→EqE env1 env1'→LeO (mX c base cur past q fun base cur past q=>jq o.dst V.undef env1 fun env=>kG P e ops sb fr k l (qx o.dst us) env base cur past q)
     (mX c base cur past q fun base cur past q=>jq o.dst V.undef env1' fun env=>jJ P e ops sb fr k' l env base cur past q):=fun env1 env1' hu1 he1=>
    amB fun base cur past q=>YC he1 fun a b h3 g3 g4=>yN hk l _ a b base cur past q (hu1.add (fun u x _=>g3 u x) g4) h3
   rcases hg:o.guard with _|⟨g,b⟩
   ·simp only [kG,jJ,ho,hg]
    exact yes env env' hu he
   ·simp only [kG,jJ,ho,hg]
    cases hd:(ops[g]?).bind (·.dst) with
    |none=>exact LeO.bad _
    |some d=>
     simp only []
     cases hm:iy d us with
     |true=>
      have hd':aZ d env'=some (.tuple .nil):=by rw [←he d];exact hu d (yH.1 hm)
      simp only [hd',ank]
      exact no env env' hu he
     |false=>
      simp only [←he d]
      cases hf:aZ d env with
      |none=>exact LeO.bad _
      |some v=>
       have hf':aZ d env'=some v:=by rw [←he d];exact hf
       cases v<;>first|(cases b<;>exact LeO.bad _)|skip
       rename_i t
       cases t<;>cases b
       ·exact yes _ _ (hu.known hf) (he.known hf')
       ·exact no _ _ (hu.known hf) (he.known hf')
       ·exact no _ _ (hu.known hf) (he.known hf')
       ·exact yes _ _ (hu.known hf) (he.known hf')
theorem wY{E E':Env}(he:EqE E E'){k:F→Out}:∀(l:List Oper) (fr:F),jo keep E k l fr=jo keep E' k l fr
 | [],_=>rfl
 |o::l,fr=>by
  simp only [jo]
  split
  ·exact wY he l fr
  ·rename_i d _
   split
   ·exact wY he l fr
   ·rw [←he d]
    split
    ·exact wY he l _
    ·rfl
def agt(P:Program)(keep:Nat→Bool)(e:FuncId→Option Fun)(ops:Array Oper)(sb:Nat→Nat→Bool)(plan:Plan)(fr:F)(h:Hp):Out:=
 kG P e ops sb fr (fun E h=>jo keep E (fun fr=>.nor fr h) ops.toList fr) plan [] [] ⟨h.t,bump (fA plan) h.next⟩ ⟨h.t,bump (fA plan) h.next⟩ [] h.next
theorem NK{plan:Plan}(fr:F)(h:Hp):LeO (agt P keep e ops sb plan fr h) (agu P keep e ops sb plan fr h):=
 yN (fun env env' h he=>by rw [wY he];exact LeO.refl _) plan [] [] [] _ _ _ _ (fun _ h=>by cases h) (EqE.refl _)
theorem bG.le{c:Code}{D D':F→Hp→Out}(hd:bG P keep G N c D)(h:∀fr g,LeO (D' fr g) (D fr g)):bG P keep G N c D':=by
 intro ro n Df fr g M a w hne at_
 have e:=h fr g hne
 rw [←e]
 exact hd _ _ _ fr g M a w (by rw [e];exact hne) at_
def bn(c:Operand)(a b:F→Hp→Out)(fr:F)(h:Hp):Out:=sG c [] fr fun v _=>ifB v (a fr h) (b fr h)
theorem YF(c:Operand)(a b:F→Hp→Out):bn c a b=asU c a b:=by
 funext fr h
 rfl
def fE(P:Program)(G N:Nat)(keep:Nat→Bool)(e:FuncId→Option Fun)(pl:aJ)(lf:Nat):Code→F→Hp→Out
 | .skip=>.nor
 | .label _=>.nor
 | .region id ops d=>(match d with
  |false=>l9 P keep e ops ops.toList [] []
  |true=>(match pl id with
   |some (ms,plan)=>(match qG ops ms G N plan with|true=>agt P keep e ops (jE ms) plan|false=>Hr P G N keep e ops ms plan)
   |none=>fun _ _=>.bad))
 | .seq a b=>aC (fE P G N keep e pl lf a) (fE P G N keep e pl lf b)
 | .cond c a b=>bn c (fE P G N keep e pl lf a) (fE P G N keep e pl lf b)
 | .block id b=>dU id (fE P G N keep e pl lf b)
 | .loop b=>eU (fE P G N keep e pl lf b) lf
 | .exit id=>.ex id
 | .ret=>.ret
 | .scope b=>fE P G N keep e pl lf b
 |_=>fun _ _=>.bad
theorem eH(hm:P.follows .mixedOrders=true)(hE:∀f F,e f=some F→aj P G f F)(pl:aJ)(lf:Nat):(c:Code)→codeOk G N c=true→bG P keep G N c (fE P G N keep e pl lf c)
 | .skip,_=>.nor fun _ _ _ _ _ h=>wpIn_skip h
 | .label _,_=>.nor fun _ _ _ _ _ h=>wpIn_label h
 | .region id ops d,hc=>by
  cases d with
  |true=>
   simp only [fE]
   split
   ·split
    ·rename_i hp;exact(bG.draw hm hE (qf hc) (xX hp) (FH hp)).le fun fr h=>NK fr h
    ·exact Jf hm hE (qf hc)
   ·exact .bad
  |false=>
   have:=bG.region (keep:=keep) (id:=id) hE (fun o ho=>by simp only [codeOk,List.all_eq_true] at hc;exact hc o ho)
   exact this.le fun fr h=>wK _ [] [] [] fr h (fun _ h=>by cases h) (EqE.refl _)
 | .seq a b,hc=>by simp only [codeOk,Bool.and_eq_true] at hc;exact .seq (eH hm hE pl lf a hc.1) (eH hm hE pl lf b hc.2)
 | .cond c a b,hc=>by
  simp only [codeOk,Bool.and_eq_true] at hc
  simp only [fE,YF]
  refine .cond (fun g hg=>?_) (eH hm hE pl lf a hc.2.1) (eH hm hE pl lf b hc.2.2)
  subst hg
  simpa [Nat.blt_eq] using hc.1
 | .block id b,hc=>.block (eH hm hE pl lf b hc)
 | .loop b,hc=>.loop (eH hm hE pl lf b hc) lf
 | .exit id,_=>fun _ _ _ fr h M a w _ at_=>wpIn_exit ⟨rfl,M,at_,.refl at_.rel⟩
 | .ret,_=>fun _ _ _ fr h M a w _ at_=>wpIn_ret ⟨M,at_,.refl at_.rel⟩
 | .scope b,hc=>.scope (eH hm hE pl lf b hc)
 | .goto _,_=>.bad
 | .rangeFunc ..,_=>.bad
 | .refuse _,_=>.bad
def gI(P:Program)(G:Nat)(keep:Nat→Bool)(e:FuncId→Option Fun)(pl:aJ)(lf:Nat)(fn:Func):Fun:=match fn.body with
 |some c=>qw P keep fn.ntmps fn.results.toList (fE P G fn.ntmps keep e pl lf c)
 |none=>fun _ _=>.bad
theorem eG(hm:P.follows .mixedOrders=true){f:FuncId}{fn:Func}{pl:aJ}{lf:Nat}(hE:∀f F,e f=some F→aj P G f F)(hf:P.funcs[f]?=some fn)(ho:wW G fn=true):aj P G f (gI P G keep e pl lf fn):=by
 unfold wW at ho
 simp only [Bool.and_eq_true,Bool.not_eq_true'] at ho
 unfold gI
 cases hb:fn.body with
 |none=>rw [hb] at ho;cases ho.1
 |some c=>
  rw [hb] at ho
  exact YH hf ho.2 hb (eH hm hE pl lf c ho.1)
end
end Go.Vm
namespace Go.Vm
noncomputable section
variable{P:Program}{G N:Nat}{keep:Nat→Bool}{e:FuncId→Option Fun}
def plB(G N:Nat)(pl:aJ)(pr:Nat→Bool):Code→Bool
 | .region id ops d=>(match d with
  |false=>true
  |true=>(match pr id with
   |true=>true
   |false=>(match pl id with
    |some (ms,plan)=>qG ops ms G N plan
    |none=>true)))
 | .seq a b=>plB G N pl pr a&&plB G N pl pr b
 | .cond _ a b=>plB G N pl pr a&&plB G N pl pr b
 | .block _ b=>plB G N pl pr b
 | .loop b=>plB G N pl pr b
 | .scope b=>plB G N pl pr b
 |_=>true
def o7(P:Program)(G N:Nat)(keep:Nat→Bool)(e:FuncId→Option Fun)(pl:aJ)(pr:Nat→Bool)(lf:Nat):Code→F→Hp→Out
 | .skip=>.nor
 | .label _=>.nor
 | .region id ops d=>(match d with
  |false=>l9 P keep e ops ops.toList [] []
  |true=>(match pl id with
   |some (ms,plan)=>(match pr id with|true=>Hr P G N keep e ops ms plan|false=>agt P keep e ops (jE ms) plan)
   |none=>fun _ _=>.bad))
 | .seq a b=>aC (o7 P G N keep e pl pr lf a) (o7 P G N keep e pl pr lf b)
 | .cond c a b=>bn c (o7 P G N keep e pl pr lf a) (o7 P G N keep e pl pr lf b)
 | .block id b=>dU id (o7 P G N keep e pl pr lf b)
 | .loop b=>eU (o7 P G N keep e pl pr lf b) lf
 | .exit id=>.ex id
 | .ret=>.ret
 | .scope b=>o7 P G N keep e pl pr lf b
 |_=>fun _ _=>.bad
theorem lG(hm:P.follows .mixedOrders=true)(hE:∀f F,e f=some F→aj P G f F)(pl:aJ)(pr:Nat→Bool)(lf:Nat):(c:Code)→codeOk G N c=true→plB G N pl pr c=true→bG P keep G N c (o7 P G N keep e pl pr lf c)
 | .skip,_,_=>.nor fun _ _ _ _ _ h=>wpIn_skip h
 | .label _,_,_=>.nor fun _ _ _ _ _ h=>wpIn_label h
 | .region id ops d,hc,hp=>by
  cases d with
  |true=>
   simp only [o7]
   simp only [plB] at hp
   cases hl:pl id with
   |none=>exact .bad
   |some x=>
    obtain⟨ms,plan⟩:=x
    rw [hl] at hp
    cases hr:pr id with
    |true=>exact Jf hm hE (qf hc)
    |false=>
     rw [hr] at hp
     exact(bG.draw hm hE (qf hc) (xX hp) (FH hp)).le fun fr h=>NK fr h
  |false=>
   have:=bG.region (keep:=keep) (id:=id) hE (fun o ho=>by simp only [codeOk,List.all_eq_true] at hc;exact hc o ho)
   exact this.le fun fr h=>wK _ [] [] [] fr h (fun _ h=>by cases h) (EqE.refl _)
 | .seq a b,hc,hp=>by
  simp only [codeOk,Bool.and_eq_true] at hc
  simp only [plB,Bool.and_eq_true] at hp
  exact .seq (lG hm hE pl pr lf a hc.1 hp.1) (lG hm hE pl pr lf b hc.2 hp.2)
 | .cond c a b,hc,hp=>by
  simp only [codeOk,Bool.and_eq_true] at hc
  simp only [plB,Bool.and_eq_true] at hp
  simp only [o7,YF]
  refine .cond (fun g hg=>?_) (lG hm hE pl pr lf a hc.2.1 hp.1) (lG hm hE pl pr lf b hc.2.2 hp.2)
  subst hg
  simpa [Nat.blt_eq] using hc.1
 | .block id b,hc,hp=>.block (lG hm hE pl pr lf b hc hp)
 | .loop b,hc,hp=>.loop (lG hm hE pl pr lf b hc hp) lf
 | .exit id,_,_=>fun _ _ _ fr h M a w _ at_=>wpIn_exit ⟨rfl,M,at_,.refl at_.rel⟩
 | .ret,_,_=>fun _ _ _ fr h M a w _ at_=>wpIn_ret ⟨M,at_,.refl at_.rel⟩
 | .scope b,hc,hp=>.scope (lG hm hE pl pr lf b hc hp)
 | .goto _,_,_=>.bad
 | .rangeFunc ..,_,_=>.bad
 | .refuse _,_,_=>.bad
def aV(P:Program)(G:Nat)(keep:Nat→Bool)(e:FuncId→Option Fun)(pl:aJ)(pr:Nat→Bool)(lf:Nat)(fn:Func):Fun:=match fn.body with
 |some c=>qw P keep fn.ntmps fn.results.toList (o7 P G fn.ntmps keep e pl pr lf c)
 |none=>fun _ _=>.bad
def ahy(G:Nat)(pl:aJ)(pr:Nat→Bool)(fn:Func):Bool:=match fn.body with|some c=>plB G fn.ntmps pl pr c|none=>true
theorem aI(hm:P.follows .mixedOrders=true){f:FuncId}{fn:Func}{pl:aJ}{pr:Nat→Bool}{lf:Nat}(hE:∀f F,e f=some F→aj P G f F)(hf:P.funcs[f]?=some fn)(ho:wW G fn=true)(hp:ahy G pl pr fn=true):
  aj P G f (aV P G keep e pl pr lf fn):=by
 unfold wW at ho
 unfold ahy at hp
 simp only [Bool.and_eq_true,Bool.not_eq_true'] at ho
 unfold aV
 cases hb:fn.body with
 |none=>rw [hb] at ho;cases ho.1
 |some c=>
  rw [hb] at ho hp
  exact YH hf ho.2 hb (lG hm hE pl pr lf c ho.1 hp)
end
end Go.Vm
namespace Go.Vm
noncomputable section
variable{P:Program}{G:Nat}{M:Mp}{h h':Hp}{w:World}
theorem Rel.store1(hr:Rel G M h w){i:Pos}{cs cs':List V}{L:Loc}{o:Nat}{v:V}{c:Value}{t:TypeId}{f:Bool}(hi:h.get i=some (.cells (.rw t f) cs))(hL:M i=some L)(hp:iV o [v] cs=some cs')(hx:Rp M v c)(hs:scalar c=true):
  (∃u,w.cell? (L.at o)=some u)∧w.frozen? (L.at o)=false∧Rel G M (h.put i (some (.cells (.rw t f) cs'))) (w.setCell (L.at o) c)∧Ext M h w M (h.put i (some (.cells (.rw t f) cs'))) (w.setCell (L.at o) c):=by
 obtain⟨w',h1,h2,h3⟩:=hr.store (P:=default) hi hL hp (xs:= [c]) ⟨c,[],hx,rfl,rfl⟩ (by simpa using hs)
 obtain⟨hfit,_⟩:=kY o [v] hp
 obtain⟨L',hL',cc,el,fr,hb,hsz,hcell,hfr⟩:=hr.ob i _ hi
 rw [hL] at hL';cases hL'
 simp at hfit
 obtain⟨x,hx',_⟩:=hcell o cs[o] (List.getElem?_eq_getElem (by omega))
 have hlt:=(Array.getElem?_eq_some_iff.1 hx').1
 have hc:w.cell? (L.at o)=some x:=by simp [World.cell?,Loc.at,hb,hx']
 have hf:w.frozen? (L.at o)=false:=by
  have:=hfr.2.1 (L.off+o) (by omega) (by omega)
  simp only [World.frozen?,Loc.at,hb]
  rw [←Bool.not_eq_true]
  intro hh
  rw [Bool.and_eq_true] at hh
  exact this ⟨of_decide_eq_true hh.1,of_decide_eq_true hh.2⟩
 have hrun:=run_storeCells_cells (P:=default) L.blk (L.off+o) [c] 0 w
  (fun j hj=>by
   simp at hj;subst hj
   show(w.cell? (L.at o)).isSome=true
   rw [hc];rfl)
  (fun j hj=>by simp at hj;subst hj;exact hf)
  (fun v hv=>by simp at hv;subst hv;exact nT hs)
 simp only [Nat.add_zero] at hrun
 have e:w'=w.setCell (L.at o) c:=by
  have e1:(storeCells (L.at o) [c]).run default w=.ok () (w.setCells L.blk (L.off+o) [c]):=hrun
  rw [h1] at e1
  cases e1
  rfl
 subst e
 exact⟨⟨x,hc⟩,hf,h2,h3⟩
def rX(k k':IntKind):Bool:=Nat.beq (kix k) (kix k')
def uf(k:IntKind):Fun:=fun args h=>match args with
 | [x]=>iP x fun i o=>dL h i fun _ cs=>match qm o cs with
  |some v=>(match v with
   | .int k' n=>(match rX k k' with|true=>.ok (.int k n) h|false=>.bad)
   |_=>.bad)
  |none=>.bad
 |_=>.bad
def qh:Fun:=fun args h=>match args with
 | [x,y]=>(match y with
  | .int k n=>iP x fun i o=>dL h i fun wr cs=>(match wr with
   | .rw t f=>(match iV o [.int k n] cs with|some cs'=>.ok V.undef (h.put i (some (.cells (.rw t f) cs')))|none=>.bad)
   | .ro=>.bad)
  |_=>.bad)
 |_=>.bad
def xB(k:IntKind):Fun:=fun args h=>match args with
 | [x,y]=>(match y with
  | .int k2 m=>iP x fun i o=>dL h i fun wr cs=>(match qm o cs with
   |some v=>(match v with
    | .int k' n=>(match rX k k',rX k k2 with
     |true,true=>(match wr with
      | .rw t f=>(match fZ k (mW k (n+m)) h with
       | .ok s _=>(match iV o [s] cs with|some cs'=>.ok s (h.put i (some (.cells (.rw t f) cs')))|none=>.bad)
       | .bad=>.bad)
      | .ro=>.bad)
     |_,_=>.bad)
    |_=>.bad)
   |none=>.bad)
  |_=>.bad)
 |_=>.bad
def Ep(k:IntKind):Fun:=fun args h=>match args with
 | [x,y,z]=>(match y,z with
  | .int k2 a,.int k3 b=>iP x fun i o=>dL h i fun wr cs=>(match qm o cs with
   |some v=>(match v with
    | .int k' n=>(match rX k k',rX k k2,rX k k3 with
     |true,true,true=>(match wr with
      | .rw t f=>(match iK n a with
       |true=>(match iV o [.int k b] cs with|some cs'=>.ok (.bool true) (h.put i (some (.cells (.rw t f) cs')))|none=>.bad)
       |false=>.ok (.bool false) h)
      | .ro=>.bad)
     |_,_,_=>.bad)
    |_=>.bad)
   |none=>.bad)
  |_,_=>.bad)
 |_=>.bad
theorem lZ{k k':IntKind}(h:rX k k'=true):k=k':=mD h
section
variable{f:FuncId}{fn:Func}(hf:P.funcs[f]?=some fn)(hname:(fn.name== "runtime.NumGoroutine")=false)(hb:fn.body.isNone=true)(hn:Extern.findNext fn=none)
include hf hname hb hn
theorem yh(k:IntKind)(he:Extern.find fn=some (Extern.Atomic.loadT (.int k))):aj P G f (uf k):=by
 intro args h r h' M w cargs e hr ha
 unfold uf at e
 split at e
 ·rename_i x
  obtain⟨i,o,rfl,e1⟩:=fO e
  clear e
  obtain⟨wr,cs,hi,e⟩:=dG e1
  clear e1
  obtain⟨c,cs2,hc,hz,rfl⟩:=ha
  rw [show cs2= [] from hz]
  obtain⟨L,hL,rfl⟩:=hc.ptr
  rw [jB] at e
  split at e
  ·rename_i v hv
   split at e
   ·rename_i k' n
    split at e
    ·rename_i hk
     have:=lZ hk
     subst this
     cases e
     obtain⟨y,hy,hry,_⟩:=hr.cell hi hL hv
     cases hry.int
     rw [show [Value.pointer (some (L.at o))].toArray= #[.pointer (some (L.at o))] from rfl,run_call_load hf hname hb hn k he hy]
     exact⟨M,dK M _ _,hr,.refl hr⟩
    ·cases e
   ·cases e
  ·cases e
 ·cases e
theorem vW(he:Extern.find fn=some Extern.Atomic.storeT):aj P G f qh:=by
 intro args h r h' M w cargs e hr ha
 unfold qh at e
 split at e
 ·rename_i x y
  split at e
  ·rename_i k n
   obtain⟨i,o,rfl,e1⟩:=fO e
   clear e
   obtain⟨wr,cs,hi,e⟩:=dG e1
   clear e1
   obtain⟨c,cs2,hc,⟨d,ds,hd,hz,rfl⟩,rfl⟩:=ha
   rw [show ds= [] from hz]
   obtain⟨L,hL,rfl⟩:=hc.ptr
   cases hd.int
   split at e
   ·split at e
    ·rename_i hp
     cases e
     obtain⟨⟨u,hu⟩,hfz,h2,h3⟩:=hr.store1 (gZ hi) hL hp (dK M k n) rfl
     rw [show [Value.pointer (some (L.at o)),.int k n].toArray= #[.pointer (some (L.at o)),.int k n] from rfl,run_call_store hf hname hb hn he hu hfz]
     exact⟨M,gu M,h2,h3⟩
    ·cases e
   ·cases e
  ·cases e
 ·cases e
theorem Dz(k:IntKind)(he:Extern.find fn=some (Extern.Atomic.update (Op.intArith .add) k true)):aj P G f (xB k):=by
 intro args h r h' M w cargs e hr ha
 unfold xB at e
 split at e
 ·rename_i x y
  split at e
  ·rename_i k2 m
   obtain⟨i,o,rfl,e1⟩:=fO e
   clear e
   obtain⟨wr,cs,hi,e⟩:=dG e1
   clear e1
   obtain⟨c,cs2,hc,⟨d,ds,hd,hz,rfl⟩,rfl⟩:=ha
   rw [show ds= [] from hz]
   obtain⟨L,hL,rfl⟩:=hc.ptr
   cases hd.int
   rw [jB] at e
   split at e
   ·rename_i v hv
    split at e
    ·rename_i k' n
     split at e
     ·rename_i hk hk2
      have:=lZ hk
      subst this
      have:=lZ hk2
      subst this
      obtain⟨z,hz1,hrz,_⟩:=hr.cell hi hL hv
      cases hrz.int
      split at e
      ·rw [fD,oI] at e
       simp only [] at e
       split at e
       ·rename_i hp
        cases e
        obtain⟨_,hfz,h2,h3⟩:=hr.store1 (gZ hi) hL hp (dK M k (k.wrap (n+m))) rfl
        rw [show [Value.pointer (some (L.at o)),.int k m].toArray= #[.pointer (some (L.at o)),.int k m] from rfl,run_call_add hf hname hb hn k he hz1 hfz (s:=k.wrap (n+m)) rfl]
        exact⟨M,dK M _ _,h2,h3⟩
       ·cases e
      ·cases e
     ·cases e
    ·cases e
   ·cases e
  ·cases e
 ·cases e
theorem agC(k:IntKind)(he:Extern.find fn=some (Extern.Atomic.casT (.int k))):aj P G f (Ep k):=by
 intro args h r h' M w cargs e hr ha
 unfold Ep at e
 split at e
 ·rename_i x y z
  split at e
  ·rename_i k2 a k3 b
   obtain⟨i,o,rfl,e1⟩:=fO e
   clear e
   obtain⟨wr,cs,hi,e⟩:=dG e1
   clear e1
   obtain⟨c,cs2,hc,⟨d,ds,hd,⟨d2,ds2,hd2,hz,rfl⟩,rfl⟩,rfl⟩:=ha
   rw [show ds2= [] from hz]
   obtain⟨L,hL,rfl⟩:=hc.ptr
   cases hd.int
   cases hd2.int
   rw [jB] at e
   split at e
   ·rename_i v hv
    split at e
    ·rename_i k' n
     split at e
     ·rename_i hk hk2 hk3
      have:=lZ hk
      subst this
      have:=lZ hk2
      subst this
      have:=lZ hk3
      subst this
      obtain⟨z,hz1,hrz,_⟩:=hr.cell hi hL hv
      cases hrz.int
      split at e
      ·split at e
       ·rename_i heq
        rw [jl] at heq
        have heq:n=a:=by simpa using heq
        subst heq
        split at e
        ·rename_i hp
         cases e
         obtain⟨_,hfz,h2,h3⟩:=hr.store1 (gZ hi) hL hp (dK M k b) rfl
         rw [show [Value.pointer (some (L.at o)),.int k n,.int k b].toArray= #[.pointer (some (L.at o)),.int k n,.int k b] from rfl,run_call_cas_hit hf hname hb hn k he hz1 hfz]
         exact⟨M,iZ M _,h2,h3⟩
        ·cases e
       ·rename_i heq
        cases e
        rw [jl] at heq
        have hne:¬n=a:=by simpa using heq
        have hfz:w.frozen? (L.at o)=false:=by
         obtain⟨L',hL',cc,el,fr,hb2,hsz,hcell,hfr⟩:=hr.ob i _ (gZ hi)
         rw [hL] at hL';cases hL'
         obtain⟨x,hx',_⟩:=hcell o _ hv
         have hlt:=(Array.getElem?_eq_some_iff.1 hx').1
         have:=hfr.2.1 (L.off+o) (by omega) (by omega)
         simp only [World.frozen?,Loc.at,hb2]
         rw [←Bool.not_eq_true]
         intro hh
         rw [Bool.and_eq_true] at hh
         exact this ⟨of_decide_eq_true hh.1,of_decide_eq_true hh.2⟩
        rw [show [Value.pointer (some (L.at o)),.int k a,.int k b].toArray= #[.pointer (some (L.at o)),.int k a,.int k b] from rfl,run_call_cas_miss hf hname hb hn k he hz1 hfz hne]
        exact⟨M,iZ M _,hr,.refl hr⟩
      ·cases e
     ·cases e
    ·cases e
   ·cases e
  ·cases e
 ·cases e
def Hq:Fun:=fun args h=>match args with| [x]=>.ok x h|_=>.bad
theorem II(he:Extern.find fn=some Extern.AbiNoEscape.same):aj P G f Hq:=by
 intro args h r h' M w cargs e hr ha
 unfold Hq at e
 split at e
 ·cases e
  obtain⟨c,cs2,hc,hz,rfl⟩:=ha
  rw [show cs2= [] from hz,run_callFunc_extern hf hname hb hn he]
  exact⟨M,hc,hr,.refl hr⟩
 ·cases e
end
end
end Go.Vm
namespace Go.Vm
noncomputable section
open Go.RowKit
variable{P:Program}{G:Nat}{M:Mp}{h:Hp}{w:World}
theorem aA:∀f F,(fun _=>none:FuncId→Option Fun) f=some F→aj P G f F:=fun _ _ h=>by cases h
theorem ai{g:FuncId}{F:Fun}{e:FuncId→Option Fun}(h1:aj P G g F)(h2:∀f F,e f=some F→aj P G f F):∀f F',(fun f=>match Nat.beq f g with|true=>some F|false=>e f:FuncId→Option Fun) f=some F'→aj P G f F':=by
 intro f F' h
 simp only [] at h
 split at h
 ·rename_i hb;cases h;rw [Nat.eq_of_beq_eq_true hb];exact h1
 ·exact h2 f F' h
def lf:Nat:=10000000000000000000
def codeOf(fn:Func):Code:=fn.body.getD .skip
structure Seen (G:Nat) (M:Mp) (h:Hp) (w:World):Prop where
 rel:Rel G M h w
 un:∀i o,h.get i=some o→o.own=false
def h0(G:Nat):Hp:=⟨.nil,Pos.of G⟩
def m0(G:Nat):Mp:=fun p=>if p.nat<G then some ⟨p.nat,0,0⟩ else none
theorem vO(G:Nat)(i:Pos):(h0 G).get i=none:=T.get_nil i
theorem Seen.empty(G:Nat)(w:World):Seen G (m0 G) (h0 G) w:=by
 refine⟨⟨fun i o hi=>?_,fun i hi=>?_,fun i j o p L K _ hi=>?_,fun g hg=>⟨0,?_⟩⟩,fun i o hi=>?_⟩
 ·rw [vO] at hi;cases hi
 ·have:G≤i.nat:=by have:=hi;rw [show(h0 G).next=Pos.of G from rfl,Pos.dm] at this;exact this
  unfold m0;rw [if_neg (by omega)]
 ·rw [vO] at hi;cases hi
 ·unfold m0;rw [Pos.dm,if_pos hg]
 ·rw [vO] at hi;cases hi
theorem Ub{f:FuncId}{F:Fun}{fn:Func}{c:Code}(hF:aj P G f F)(hf:P.funcs[f]?=some fn)(hn:(fn.name== "runtime.NumGoroutine")=false)(hb:fn.body=some c)(S:Seen G M h w){args:List V}{cargs:List Value}(ha:aX M args cargs){h':Hp}
  (e:F args h=.ok (.bool true) h'):Calls P f cargs.toArray w fun e w'=>e=.returned (.bool true)∧Below w.heap.size w w':=by
 have:=hF args h _ h' M w cargs e S.rel ha
 have hrun:(callFunc f cargs.toArray).run P w=.ok (.enter f cargs.toArray) w:=by
  unfold callFunc
  rw [Sem.run_bind,run_program];have hn':¬fn.name= "runtime.NumGoroutine" :=by simpa using hn
  simp [hf,hn',hb]
 rw [hrun] at this
 refine Calls.mono this ?_
 rintro e w' ⟨cv,rfl,M',hr,hrel,hx⟩
 have:=hr.bool
 subst this
 refine⟨rfl,hx.os,hx.tape,hx.output,hx.size,fun k hk=>hx.same k hk fun i o L hi ho _=>?_⟩
 rw [S.un i o hi] at ho;cases ho
theorem Opq.mono{p q:Value→World→Prop}(hpq:∀c w,p c w→q c w){r:Result Next}(h:Opq P p r):Opq P q r:=by
 unfold Opq at h⊢
 split at h
 ·exact hpq _ _ h
 ·exact hpq _ _ h
 ·exact Calls.mono h fun e w' ⟨c,e1,e2⟩=>⟨c,e1,hpq _ _ e2⟩
 ·exact h.elim
def isT(r:R V):Bool:=match r with
 | .ok v _=>(match v with| .bool b=>b|_=>false)
 | .bad=>false
theorem ajP{r:R V}(e:isT r=true):∃h,r=.ok (.bool true) h:=by
 unfold isT at e
 split at e
 ·rename_i v h
  split at e
  ·rename_i b
   cases e
   exact⟨h,rfl⟩
  ·cases e
 ·cases e
theorem Rel.after{w':World}{M':Mp}{h':Hp}(r:Rel G M h w)(x:Ext (m0 G) (h0 G) w M' h' w'):Rel G M h w'∧Ext M h w M h w':=by
 have hb:∀b,b<w.heap.size→w'.heap[b]?=w.heap[b]?:=fun b hb=>x.same b hb fun i o L hi _ _=>by rw [vO] at hi;cases hi
 refine⟨⟨fun i o hi=>?_,r.fresh,r.sep,r.gl⟩,⟨M.le_refl,Nat.le_refl _,x.os,x.tape,x.output,x.size,fun b hlt _=>hb b hlt,fun i o L a b c=>.inr ⟨i,o,L,a,b,c,rfl⟩,fun _ _ h=>h,fun i o L a b=>.inr ⟨i,o,L,a,b,rfl⟩,fun _ _ h=>h⟩⟩
 obtain⟨L,hL,ho⟩:=r.ob i o hi
 exact⟨L,hL,ho.of_block (hb _ ho.lt)⟩
def ajZ(b:Bool):Fun:=fun args h=>match args with| []=>.ok (.bool b) h|_::_=>.bad
theorem ajY{f:FuncId}{F:Fun}{b:Bool}(hF:aj P G f F){h':Hp}(e:F [] (h0 G)=.ok (.bool b) h'):aj P G f (ajZ b):=by
 intro args h r h2 M w cargs e2 hr ha
 cases args with
 |cons _ _=>cases e2
 |nil=>
  cases e2
  have hc:cargs= []:=ha
  subst hc
  refine Opq.mono (fun c w' hp=>?_) (hF [] (h0 G) _ h' _ w [] e (Seen.empty G w).rel rfl)
  obtain⟨M',hr',-,hx⟩:=hp
  have:=hr'.bool
  subst this
  obtain⟨h1,h2⟩:=hr.after hx
  exact⟨M,iZ M b,h1,h2⟩
def vM(c:Nat):List Nat→Int
 | []=> -1
 |d::l=>(match Nat.beq d c with
  |true=>0
  |false=>(match vM c l with
   | .ofNat n=>.ofNat (n+1)
   | .negSucc _=> -1))
theorem ayd(c:Nat)(l:List Nat): -1≤vM c l:=by
 induction l with
 |nil=>simp [vM]
 |cons d l ih=>
  simp only [vM]
  split
  ·omega
  ·split
   ·rename_i n _
    have:(0:Int)≤Int.ofNat (n+1):=Int.natCast_nonneg _
    omega
   ·omega
theorem Yx{c:Nat}(hc:c<256):∀{s:List Nat},(∀b∈s,b<256)→vM c s=Go.Lib.indexByte (s.map UInt8.ofNat) (UInt8.ofNat c)
 | [],_=>rfl
 |d::l,h=>by
  have ih:=Yx hc (s:=l) fun b hb=>h b (by simp [hb])
  have hd:=h d (by simp)
  have hge:=ayd c l
  simp only [vM,List.map_cons,Go.Lib.indexByte,←ih]
  have e:(UInt8.ofNat d==UInt8.ofNat c)=Nat.beq d c:=by
   rw [Bool.eq_iff_iff]
   simp only [beq_iff_eq]
   exact⟨fun h=>by rw [oK hd hc h];exact Nat.beq_refl c,fun h=>by rw [Nat.eq_of_beq_eq_true h]⟩
  rw [e]
  cases Nat.beq d c with
  |true=>rfl
  |false=>
   simp only [Bool.false_eq_true,if_false]
   cases hi:vM c l with
   |ofNat n=>
    have:(Int.ofNat n== -1)=false:=by rw [beq_eq_false_iff_ne];intro h;cases h
    rw [this];rfl
   |negSucc n=>
    have:n=0:=by rw [hi] at hge;omega
    subst this;rfl
def ani:Fun:=fun args h=>match args with
 | [s,c]=>(match s with
  | .str l=>(match c with
   | .int k n=>(match Nat.beq (kix k) 4 with
    |true=>(match n with
     | .ofNat b=>(match Nat.blt b 256 with|true=>fZ .i64 (vM b l) h|false=>.bad)
     | .negSucc _=>.bad)
    |false=>.bad)
   |_=>.bad)
  |_=>.bad)
 |_=>.bad
theorem ayc{f:FuncId}{fn:Func}(hf:P.funcs[f]?=some fn)(hname:(fn.name== "runtime.NumGoroutine")=false)(hb:fn.body.isNone=true)(hn:Extern.findNext fn=none)(he:Extern.find fn=some Extern.BytealgIndexByte.indexByte):aj P G f ani:=by
 intro args h r h' M w cargs e hr hargs
 unfold ani at e
 split at e
 ·rename_i s c
  split at e
  ·rename_i l
   split at e
   ·rename_i k n
    split at e
    ·rename_i hk
     have hk':k=.u8:=by cases k<;>first|rfl|cases hk
     subst hk'
     split at e
     ·rename_i b
      split at e
      ·rename_i hb2
       have hb3:b<256:=by simpa [Nat.blt_eq] using hb2
       obtain⟨cs,x1,hcs,⟨cc,x2,hcc,hx2,rfl⟩,rfl⟩:=hargs
       rw [show x2= [] from hx2]
       obtain⟨hl,rfl⟩:=hcs.str
       have hcc':=hcc.int
       subst hcc'
       rw [fD] at e
       cases e
       rw [run_callFunc_extern hf hname hb hn he,Go.Lib.run_indexByteString]
       simp only [Result.andThen,Opq]
       refine⟨M,?_,hr,.refl hr⟩
       have e1:(bts l).data.toList=l.map UInt8.ofNat:=by simp [bts]
       have e2:((Int.ofNat b).toNat.toUInt8)=UInt8.ofNat b:=rfl
       rw [e1,e2,←Yx hb3 hl]
       exact dK M _ _
      ·cases e
     ·cases e
    ·cases e
   ·cases e
  ·cases e
 ·cases e
end
end Go.Vm
namespace Go.Vm
noncomputable section
variable{P:Program}{G N:Nat}
def UU(op:BinOp)(offs:List (TypeDesc×Nat))(x y:V)(h:Hp):R V:=match x,y with
 | .agg xs,.agg ys=>(match mZ offs xs.list ys.list with
  |some b=>(match op with| .eql=>cO b h| .neq=>cO (not b) h|_=>.bad)
  |none=>.bad)
 |_,_=>.bad
def Es(a:A)(k:Ob→(Pos→V)→Out):Out:=match a with|some (ob,mk)=>k ob mk|none=>.bad
def aF(n:Nat)(h:Hp):Hp:=⟨h.t,bump n h.next⟩
theorem fK{fn:Func}{keep:Nat→Bool}{e:FuncId→Option Fun}{pl:aJ}{l:Nat}{D:F→Hp→Out}(hb:fn.body=some (codeOf fn))(hD:fE P G fn.ntmps keep e pl l (codeOf fn)=D){args:List V}(hn:Nat.ble args.length fn.ntmps=true)(h:Hp):
  gI P G keep e pl l fn args h=bD P fn.results.toList (D (kR keep 0 args .nil) h):=by
 unfold gI
 rw [hb]
 simp only [qw,hn,hD]
end
end Go.Vm
namespace Go.Vm
open Go.Lib Go.Proofs
structure CaseTy (P:Program) (g:Nat) (tU tI tA tR tS:TypeId) (f0 f1 f2:Field):Prop where
 name:P.globalNamed "unicode.CaseRanges" =some g
 glob:(P.globals[g]?).map (·.type)=some tS
 s:P.underlying tS=some (.slice tR)
 r:P.underlying tR=some (.struct #[f0,f1,f2])
 a:P.underlying tA=some (.array 3 tI)
 u:P.underlying tU=some (.int .u32)
 i:P.underlying tI=some (.int .i32)
 ty:(f0.type=tU∧f1.type=tU)∧f2.type=tA
 off:(f0.offset=0∧f1.offset=1)∧f2.offset=2
 cu:P.cellsOf tU=1
 ci:P.cellsOf tI=1
 ca:P.cellsOf tA=3
 cr:P.cellsOf tR=5
variable{P:Program}{g:Nat}{tU tI tA tR tS:TypeId}{f0 f1 f2:Field}{w:World}
end Go.Vm
