/- Part of the claim: facts that its last text uses. No conditions. -/
import Derived.Test.YtfaolchpaooboaaGreatDoorJbAL
set_option linter.all false
namespace Go.Vm
noncomputable section
variable{P:Program}{G N:Nat}{M M':Mp}{h h':Hp}{w w':World}{keep:Nat→Bool}{e:FuncId→Option Fun}{r:V}{B:Rng}
theorem aUn.bad{c:Code}:aUn P keep G N B c (fun _ _ _=>.bad):=fun _ _ _ _ _ _ _ hne _=>absurd rfl hne
inductive IR where
 |ok (h:Hp) (p:Option Jmp)
 |bad
abbrev avH:=(List V→Hp→YR)→Nat→List V→Hp→IR
def aH2(P:Program)(G:Nat)(f:FuncId)(I:avH):Prop:=
 (∀args w,(callFunc f args).run P w=.ok (.enter f args) w)∧
 ∀(B:Rng) (Y:List V→Hp→YR) (args:List V) (cargs:List Value) (h h':Hp) (p:Option Jmp) (M:Mp) (w:World) (n:Nat),YOk P G B Y→I Y B.kp.nat args h=.ok h' p→Rel G M h w→aX M args cargs→Goes B none M h w→
  CallsIn (gX none) n P f cargs.toArray w fun e w'=>∃c,e=.returned c∧∃M',Rel G M' h' w'∧Goes B p M' h' w'
def oG(b:Nat):List Deferred→World→Prop
 | [],_=>True
 |d::ds,w=>∃r,d.target=.collected r∧b≤r∧w.heap[r]?=some (.deferred (some []))∧(∀d'∈ds,d'.target≠ .collected r)∧oG b ds w
theorem oG.step{b:Nat}(hr:Rel G M h w)(x:Ext M h w M' h' w'):∀{Df:List Deferred},oG b Df w→oG b Df w'
 | [],_=>trivial
 |_::_,⟨r,h1,h2,h3,h4,h5⟩=>⟨r,h1,h2,hr.kept x h3 rfl,h4,oG.step hr x h5⟩
theorem oG.put{b r:Nat}{o':Obj}:∀{Df:List Deferred},(∀d'∈Df,d'.target≠ .collected r)→oG b Df w→oG b Df (w.putObj r o')
 | [],_,_=>trivial
 |d::ds,hn,⟨r',h1,h2,h3,h4,h5⟩=>⟨r',h1,h2,by rw [World.putObj_heap_other (fun e=>hn d (by simp) (by rw [h1,e]))];exact h3,h4,oG.put (fun d' hd=>hn d' (by simp [hd])) h5⟩
theorem oG.lt{b:Nat}:∀{Df:List Deferred},oG b Df w→∀d∈Df,∀r,d.target=.collected r→r<w.heap.size
 |d::ds,⟨r,h1,_,h3,_,h5⟩,d',hd,r',e=>by
  rcases List.mem_cons.1 hd with rfl|hd
  ·rw [h1] at e;cases e
   exact(Array.getElem?_eq_some_iff.1 h3).1
  ·exact oG.lt h5 d' hd r' e
def aNi(keep:Nat→Bool)(G N b:Nat)(M:Mp)(h:Hp)(w:World):Out→Exit→Act→World→Prop
 | .nor fr h',.normal,a,w'=>∃M' Df,oG b Df w'∧At keep G N Df M' fr h' a w'∧Ext M h w M' h' w'
 | .ret fr h',.ret,a,w'=>∃M' Df,oG b Df w'∧At keep G N Df M' fr h' a w'∧Ext M h w M' h' w'
 | .ex i fr h',.exit j,a,w'=>j=i∧∃M' Df,oG b Df w'∧At keep G N Df M' fr h' a w'∧Ext M h w M' h' w'
 |_,_,_,_=>False
theorem aNi.trans{b:Nat}{M':Mp}{w':World}(x:Ext M h w M' h' w'){o:Out}{e:Exit}{a:Act}{v:World}(q:aNi keep G N b M' h' w' o e a v):aNi keep G N b M h w o e a v:=by
 cases o<;>cases e<;>simp only [aNi] at q⊢
 ·obtain⟨M2,Df,m,p,y⟩:=q;exact⟨M2,Df,m,p,x.trans y⟩
 ·obtain⟨M2,Df,m,p,y⟩:=q;exact⟨M2,Df,m,p,x.trans y⟩
 ·obtain⟨rfl,M2,Df,m,p,y⟩:=q;exact⟨rfl,M2,Df,m,p,x.trans y⟩
def akK(P:Program)(keep:Nat→Bool)(G N:Nat)(c:Code)(D:F→Hp→Out):Prop:=
 ∀n b Df fr h M a w,D fr h≠ .bad→b≤w.heap.size→oG b Df w→At keep G N Df M fr h a w→c.wpIn (gX none) n P (aNi keep G N b M h w (D fr h)) a w
theorem akK.lift{c:Code}{D:F→Hp→Out}(hc:bG P keep G N c D):akK P keep G N c D:=by
 intro n b Df fr h M a w hne hb hm at_
 refine wpIn_mono (hc none n Df fr h M a w hne at_) ?_
 intro x a' w' q
 generalize D fr h=o at q
 cases o<;>cases x<;>simp only [eP] at q
 ·obtain⟨M',p,y⟩:=q;exact⟨M',Df,hm.step at_.rel y,p,y⟩
 ·obtain⟨M',p,y⟩:=q;exact⟨M',Df,hm.step at_.rel y,p,y⟩
 ·obtain⟨e1,M',p,y⟩:=q;exact⟨e1,M',Df,hm.step at_.rel y,p,y⟩
theorem akK.seq{c d:Code}{D E:F→Hp→Out}(hc:akK P keep G N c D)(hd:akK P keep G N d E):akK P keep G N (.seq c d) (aC D E):=by
 intro n b Df fr h M a w hne hb hm at_
 refine wpIn_seq ?_
 unfold aC at hne⊢
 cases e1:D fr h with
 |bad=>rw [e1] at hne;exact absurd rfl hne
 |nor fr1 h1=>
  rw [e1] at hne
  refine wpIn_mono (hc n b Df fr h M a w (by rw [e1];simp) hb hm at_) ?_
  intro x a' w' q
  rw [e1] at q
  cases x<;>simp only [aNi] at q
  obtain⟨M',Df',hm',at',hx⟩:=q
  exact wpIn_mono (hd n b Df' fr1 h1 M' a' w' hne (Nat.le_trans hb hx.size) hm' at') fun x a w q=>aNi.trans hx q
 |ret fr1 h1=>
  refine wpIn_mono (hc n b Df fr h M a w (by rw [e1];simp) hb hm at_) ?_
  intro x a' w' q
  rw [e1] at q
  cases x<;>simp only [aNi] at q
  exact q
 |ex i fr1 h1=>
  refine wpIn_mono (hc n b Df fr h M a w (by rw [e1];simp) hb hm at_) ?_
  intro x a' w' q
  rw [e1] at q
  cases x<;>simp only [aNi] at q
  exact q
theorem akK.cond{x:Operand}{c d:Code}{D E:F→Hp→Out}(hg:∀g,x=.global g→g<G)(hc:akK P keep G N c D)(hd:akK P keep G N d E):akK P keep G N (.cond x c d) (asU x D E):=by
 intro n b Df fr h M a w hne hb hm at_
 obtain⟨v,env,e1,hv,-⟩:=D9 hne at_ hg (iH.nil M a) (rfl:asU x D E fr h=_)
 rw [←e1] at hne⊢
 cases v<;>simp only [ne_eq,not_true_eq_false] at hne⊢
 rename_i t
 have ht:=hv.bool
 cases t
 ·exact wpIn_cond_false ht (hd n b Df fr h M a w hne hb hm at_)
 ·exact wpIn_cond_true ht (hc n b Df fr h M a w hne hb hm at_)
theorem akK.block{id:Nat}{c:Code}{D:F→Hp→Out}(hc:akK P keep G N c D):akK P keep G N (.block id c) (dU id D):=by
 intro n b Df fr h M a w hne hb hm at_
 refine wpIn_block ?_
 unfold dU at hne⊢
 cases e1:D fr h with
 |bad=>rw [e1] at hne;exact absurd rfl hne
 |nor fr1 h1=>
  refine wpIn_mono (hc n b Df fr h M a w (by rw [e1];simp) hb hm at_) ?_
  intro x a' w' q
  rw [e1] at q
  cases x<;>simp only [aNi] at q
  exact q
 |ret fr1 h1=>
  refine wpIn_mono (hc n b Df fr h M a w (by rw [e1];simp) hb hm at_) ?_
  intro x a' w' q
  rw [e1] at q
  cases x<;>simp only [aNi] at q
  exact q
 |ex i fr1 h1=>
  refine wpIn_mono (hc n b Df fr h M a w (by rw [e1];simp) hb hm at_) ?_
  intro x a' w' q
  rw [e1] at q
  cases x<;>simp only [aNi] at q
  obtain⟨rfl,q⟩:=q
  simp only [Exit.inBlock]
  cases hb:Nat.beq _ id with
  |true=>rw [if_pos (Nat.eq_of_beq_eq_true hb)];exact q
  |false=>rw [if_neg (Nat.ne_of_beq_eq_false hb)];exact⟨rfl,q⟩
abbrev avG:=FuncId→Option avH
def amE(fi:avG)(keep:Nat→Bool)(g:Operand)(ps:List Nat)(Da Db:F→Hp→Out)(fr:F)(h:Hp):Out:=
 sG g [] fr fun v _=>match v with
 | .func fn a b=>(match fn with
  | .func f=>(match fi f with
   |some I=>(match I (zB keep ps Da Db fr) h.next.nat (a.list++(.func (.yield h.next.nat) .nil .nil::b.list)) (aF 1 h) with
    | .ok h' p=>(match p with
     |none=>.nor fr h'
     |some j=>(match j with| .ret=>.ret fr h'| .ex i=>.ex i fr h'))
    | .bad=>.bad)
   |none=>.bad)
  |_=>.bad)
 |_=>.bad
theorem akK.range{fi:avG}(hI:∀f I,fi f=some I→aH2 P G f I){g:Operand}{ps:Array Tmp}{ca cb:Code}{Da Db:F→Hp→Out}(hg:∀x,g=.global x→x<G)(hps:∀t∈ps.toList,t<N)(hA:bG P keep G N ca Da)(hB:bG P keep G N cb Db):
  akK P keep G N (.rangeFunc g ps ca cb) (amE fi keep g ps.toList Da Db):=by
 intro n b Df fr h M a w hne hb hm at_
 refine wpIn_rangeFunc fun fn _=>?_
 generalize hout:amE fi keep g ps.toList Da Db fr h=out at hne
 unfold amE at hout
 obtain⟨v,env,e1,hv,-⟩:=D9 hne at_ hg (iH.nil M a) hout
 clear hout
 split at e1
 ·rename_i fnv va vb
  split at e1
  ·rename_i f
   split at e1
   ·rename_i I hfi
    split at e1
    ·rename_i h' p hrun
     obtain⟨hcall,hiter⟩:=hI f I hfi
     obtain⟨g0,xs,ys,hg0,hx',hy',hgv⟩:=hv.func
     obtain rfl:g0=.func f:=hg0
     let L:Loop:={state:=.ready,pending:=none,fn,tmps:=a.tmps,params:=ps,assign:=ca,body:=cb,defers:=w.heap.size}
     let B:Rng:={M:=M,h:=h,w:=w,kp:=h.next,l:=w.heap.size+1,L:=L}
     let w1:=(w.alloc (.deferred (some []))).alloc (.loop L)
     have hs1:(w.alloc (.deferred (some []))).heap.size=w.heap.size+1:=World.size_alloc _ _
     have r1:Rel G M h w1:=(at_.rel.pq _).pq _
     have x1:Ext M h w M h w1:=((Ext.refl at_.rel).pq _).pq _
     obtain⟨r2,x2⟩:=aj6 r1 ⟨w.heap.size+1,0,0⟩
     have hle:=x2.le
     generalize hM1:M.add h.next ⟨w.heap.size+1,0,0⟩=M1 at r2 x2 hle
     have hky:M1 h.next=some ⟨w.heap.size+1,0,0⟩:=by rw [←hM1];exact M.bZ _ _
     have g1:Goes B none M1 (aF 1 h) w1:=by
      refine⟨x1.trans x2,hky,Nat.lt_succ_self _,?_,?_⟩
      ·show w1.heap[w.heap.size+1]?=some (.loop L)
       rw [←hs1];exact World.alloc_heap_new _ _
      ·show((w.alloc (.deferred (some []))).heap.push (.loop L))[w.heap.size]?=some (.deferred (some []))
       rw [Array.getElem?_push,if_neg (by omega)]
       exact World.alloc_heap_new _ _
     have hY:YOk P G B (zB keep ps.toList Da Db fr):=fun args cargs h2 M2 w2 n2 R hr2 ha2 g2 hy2=>
      amD (B:=B) (fr0:=fr) hA hB at_.fr at_.size hps hr2 ha2 g2 hy2
     have hargs:aX M1 (va.list++(.func (.yield h.next.nat) .nil .nil::vb.list)) (xs++(.func (.yield (w.heap.size+1)) #[] #[]::ys)):=by
      refine(hx'.mono hle).append ⟨_,_,⟨rfl,.yield (w.heap.size+1),[],[],⟨_,by rw [Pos.qI];exact hky,rfl⟩,⟨rfl,rfl⟩,rfl,rfl,rfl⟩,hy'.mono hle,rfl⟩
     refine⟨w.heap.size+1,[{target:=.collected w.heap.size,args:= #[]}],w1,{target:=.fn (.func f) ys.toArray,args:=xs.toArray++ #[.func (.yield (w.heap.size+1)) #[] #[]]},w1,f,(xs++(.func (.yield (w.heap.size+1)) #[] #[]::ys)).toArray,w1,run_enterLoop_outer _ _ _ _ _,?_,fun _ _=>trivial,?_,fun hx=>by simp [gX,Fence.wide] at hx,?_⟩
     ·simp only [resolve,rangeCall,hgv,Deferred.ofValue]
      simp [Act.eval]
     ·have:=hcall ((xs.toArray++ #[.func (.yield (w.heap.size+1)) #[] #[]])++ys.toArray) w1
      have e2:((xs.toArray++ #[Value.func (.yield (w.heap.size+1)) #[] #[]])++ys.toArray)=(xs++(.func (.yield (w.heap.size+1)) #[] #[]::ys)).toArray:=by simp
      rw [←e2]
      exact this
     ·refine CallsIn.mono (hiter B _ _ _ _ h' p M1 w1 _ hY hrun r2 hargs g1) ?_
      rintro x w3 ⟨c,rfl,M3,r3,g3⟩
      have hlt3:w.heap.size+1<w3.heap.size:=(Array.getElem?_eq_some_iff.1 g3.st).1
      refine⟨_,_,run_endLoop g3.st (by cases p<;>simp [jF]),?_⟩
      have r4:=r3.putObj g3.st rfl (.loop {jF B.L p with state:=.exhausted})
      have x4:Ext M h w M3 h' (w3.putObj B.l (.loop {jF B.L p with state:=.exhausted})):=g3.ext.putObj (b:=B.l) (by show w.heap.size≤w.heap.size+1;omega) _
      have mk4:(w3.putObj B.l (.loop {jF B.L p with state:=.exhausted})).heap[w.heap.size]?=some (.deferred (some [])):=by
       rw [World.putObj_heap_other (by show w.heap.size≠w.heap.size+1;omega)];exact g3.mrk
      generalize w3.putObj B.l (.loop {jF B.L p with state:=.exhausted})=w4 at r4 x4 mk4
      have m4:oG b ([{target:=.collected w.heap.size,args:= #[]}]++a.defers) w4:=by
       rw [show a.defers=Df from at_.plain]
       refine⟨w.heap.size,rfl,hb,mk4,fun d' hd' e=>?_,hm.step at_.rel x4⟩
       exact Nat.lt_irrefl _ (hm.lt d' hd' _ e)
      have at4:At keep G N ([{target:=.collected w.heap.size,args:= #[]}]++a.defers) M3 fr h' {a with defers:= [{target:=.collected w.heap.size,args:= #[]}]++a.defers} w4:=⟨r4,at_.fr.mono x4.le,at_.size,rfl⟩
      cases p with
      |none=>
       subst e1
       exact⟨M3,_,m4,at4,x4⟩
      |some j=>
       cases j with
       |ret=>
        subst e1
        exact wpIn_ret ⟨M3,_,m4,at4,x4⟩
       |ex i=>
        subst e1
        exact wpIn_exit ⟨rfl,M3,_,m4,at4,x4⟩
    ·exact absurd e1.symm hne
   ·exact absurd e1.symm hne
  ·exact absurd e1.symm hne
 ·exact absurd e1.symm hne
end
end Go.Vm
noncomputable section
namespace Go.Vm
end Go.Vm
