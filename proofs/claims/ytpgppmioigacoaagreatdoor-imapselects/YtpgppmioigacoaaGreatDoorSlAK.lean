/- Part of the value machine, or of a walk by it: lemmas that the claim's last text uses. No conditions. -/
import Derived.Test.YtpgppmioigacoaaGreatDoorSlAJ
import Derived.Test.YtpgppmioigacoaaGreatDoorSlAI
set_option linter.unusedVariables false
set_option linter.unusedSimpArgs false
set_option linter.unnecessarySimpa false
namespace Go.Vm
noncomputable section
variable{P:Program}{G N:Nat}{M M':Mp}{h h':Hp}{w w':World}{keep:Nat→Bool}{e:FuncId→Option Fun}{r:V}{B:Rng}
def oP(G N:Nat):Code→Bool
 | .seq a b=>(match yields (.seq a b) with|true=>oP G N a&&oP G N b|false=>codeOk G N (.seq a b))
 | .cond c a b=>(match yields (.cond c a b) with|true=>oP G N a&&oP G N b|false=>codeOk G N (.cond c a b))
 | .block id b=>(match yields (.block id b) with|true=>oP G N b|false=>codeOk G N (.block id b))
 | .loop b=>(match yields (.loop b) with|true=>oP G N b|false=>codeOk G N (.loop b))
 |c=>codeOk G N c
theorem kM.bad{c:Code}:kM P keep G N B c (fun _ _ _=>.bad):=fun _ _ _ _ _ _ _ hne _=>absurd rfl hne
theorem KJ(hm:P.follows .mixedOrders=true)(hE:∀f F,e f=some F→aJ P G f F){Y:List V→Hp→YR}(hY:YOk P G B Y)(pl:cO)(lf:Nat):(c:Code)→oP G N c=true→kM P keep G N B c (D5 P G N keep e pl lf Y B.kp.nat c)
 | .seq a b,hc=>by
  unfold oP at hc
  unfold D5
  split at hc
  ·rename_i hd
   rw [hd]
   simp only [Bool.and_eq_true] at hc
   exact .seq (KJ hm hE hY pl lf a hc.1) (KJ hm hE hY pl lf b hc.2)
  ·rename_i hd
   rw [hd]
   exact .lift (eG hm hE pl lf _ hc)
 | .cond c a b,hc=>by
  unfold oP at hc
  unfold D5
  split at hc
  ·rename_i hd
   rw [hd]
   simp only [Bool.and_eq_true] at hc
   exact .cond (KJ hm hE hY pl lf a hc.1) (KJ hm hE hY pl lf b hc.2)
  ·rename_i hd
   rw [hd]
   exact .lift (eG hm hE pl lf _ hc)
 | .block id b,hc=>by
  unfold oP at hc
  unfold D5
  split at hc
  ·rename_i hd
   rw [hd]
   exact .block (KJ hm hE hY pl lf b hc)
  ·rename_i hd
   rw [hd]
   exact .lift (eG hm hE pl lf _ hc)
 | .loop b,hc=>by
  unfold oP at hc
  unfold D5
  split at hc
  ·rename_i hd
   rw [hd]
   exact .loop (KJ hm hE hY pl lf b hc) lf
  ·rename_i hd
   rw [hd]
   exact .lift (eG hm hE pl lf _ hc)
 | .region id ops d,hc=>by
  unfold D5
  split
  ·cases d with
   |true=>exact .bad
   |false=>
    unfold oP at hc
    simp only [codeOk,List.all_eq_true] at hc
    exact .region hE hY hc
  ·exact .lift (eG hm hE pl lf _ (by unfold oP at hc;exact hc))
 | .skip,hc=>.lift (eG hm hE pl lf _ hc)
 | .label _,hc=>.lift (eG hm hE pl lf _ hc)
 | .exit _,hc=>.lift (eG hm hE pl lf _ hc)
 | .ret,hc=>.lift (eG hm hE pl lf _ hc)
 | .scope _,hc=>.lift (eG hm hE pl lf _ hc)
 | .goto _,hc=>.lift (eG hm hE pl lf _ hc)
 | .rangeFunc ..,hc=>.lift (eG hm hE pl lf _ hc)
 | .refuse _,hc=>.lift (eG hm hE pl lf _ hc)
inductive IR where
 |ok (h:Hp) (p:Option Jmp)
 |bad
abbrev ah5:=(List V→Hp→YR)→Nat→List V→Hp→IR
def am6(P:Program)(G:Nat)(keep:Nat→Bool)(e:FuncId→Option Fun)(pl:cO)(lf:Nat)(fn:Func):ah5:=fun Y k args h=>match fn.body with
 |none=>.bad
 |some c=>(match Nat.ble args.length fn.ntmps,Nat.beq fn.results.size 0 with
  |true,true=>(match D5 P G fn.ntmps keep e pl lf Y k c (xJ keep 0 args .nil) h none with
   | .nor _ h' p=>.ok h' p
   | .ret _ h' p=>.ok h' p
   |_=>.bad)
  |_,_=>.bad)
def Ip(P:Program)(G:Nat)(f:FuncId)(I:ah5):Prop:=
 (∀args w,(callFunc f args).run P w=.ok (.enter f args) w)∧
 ∀(B:Rng) (Y:List V→Hp→YR) (args:List V) (cargs:List Value) (h h':Hp) (p:Option Jmp) (M:Mp) (w:World) (n:Nat),YOk P G B Y→I Y B.kp.nat args h=.ok h' p→Rel G M h w→bZ M args cargs→Goes B none M h w→
  CallsIn (jb none) n P f cargs.toArray w fun e w'=>∃c,e=.returned c∧∃M',Rel G M' h' w'∧Goes B p M' h' w'
theorem aHW(hm:P.follows .mixedOrders=true){f:FuncId}{fn:Func}{pl:cO}{lf:Nat}(hE:∀f F,e f=some F→aJ P G f F)(hf:P.funcs[f]?=some fn)(ho:((match fn.body with|some c=>oP G fn.ntmps c|none=>false)&&!(fn.name== "runtime.NumGoroutine"))=true):Ip P G f (am6 P G keep e pl lf fn):=by
 simp only [Bool.and_eq_true,Bool.not_eq_true'] at ho
 cases hb:fn.body with
 |none=>rw [hb] at ho;cases ho.1
 |some c=>
  rw [hb] at ho
  refine⟨aeI hf ho.2 hb,?_⟩
  intro B Y args cargs h h' p M w n hY e0 hr ha g
  unfold am6 at e0
  rw [hb] at e0
  simp only [] at e0
  split at e0
  ·rename_i hle hres
   have hres:fn.results= #[]:=Array.size_eq_zero_iff.1 (Nat.eq_of_beq_eq_true hres)
   have hat:=aAA (keep:=keep) (fn:=fn) hr ha (Nat.le_of_ble_eq_true hle)
   have hs:∀o,D5 P G fn.ntmps keep e pl lf Y B.kp.nat c (xJ keep 0 args .nil) h none=o→o≠ .bad→c.wpIn (jb none) n P (rV keep G fn.ntmps B o) {tmps:=cargs.toArray++Array.replicate (fn.ntmps - cargs.toArray.size) undef,defers:= []} w:=by
    intro o hO hne
    rw [←hO] at hne⊢
    exact KJ hm hE hY pl lf c ho.1 n none _ h M _ w hne ⟨hat,g⟩
   have hrs:∀(tmps:Array Value) (w':World),(results fn tmps).run P w'=.ok (.tuple #[]) w':=fun tmps w'=>by
    rw [aaL,hres];simp
   refine callsIn_of_wp hf hb trivial ?_ rfl
   split at e0
   ·rename_i fr2 h2 p2 hO
    cases e0
    refine wpIn_mono (hs _ hO (by simp)) ?_
    intro x a' w' q
    cases x<;>simp only [rV] at q
    obtain⟨M',at',g'⟩:=q
    exact⟨at'.plain,_,hrs _ _,_,rfl,M',at'.rel,g'⟩
   ·rename_i fr2 h2 p2 hO
    cases e0
    refine wpIn_mono (hs _ hO (by simp)) ?_
    intro x a' w' q
    cases x<;>simp only [rV] at q
    obtain⟨M',at',g'⟩:=q
    exact⟨at'.plain,_,hrs _ _,_,rfl,M',at'.rel,g'⟩
   ·cases e0
  ·cases e0
def kH(b:Nat):List Deferred→World→Prop
 | [],_=>True
 |d::ds,w=>∃r,d.target=.collected r∧b≤r∧w.heap[r]?=some (.deferred (some []))∧(∀d'∈ds,d'.target≠ .collected r)∧kH b ds w
theorem kH.step{b:Nat}(hr:Rel G M h w)(x:Ext M h w M' h' w'):∀{Df:List Deferred},kH b Df w→kH b Df w'
 | [],_=>trivial
 |_::_,⟨r,h1,h2,h3,h4,h5⟩=>⟨r,h1,h2,hr.kept x h3 rfl,h4,kH.step hr x h5⟩
theorem kH.put{b r:Nat}{o':Obj}:∀{Df:List Deferred},(∀d'∈Df,d'.target≠ .collected r)→kH b Df w→kH b Df (w.putObj r o')
 | [],_,_=>trivial
 |d::ds,hn,⟨r',h1,h2,h3,h4,h5⟩=>⟨r',h1,h2,by rw [World.putObj_heap_other (fun e=>hn d (by simp) (by rw [h1,e]))];exact h3,h4,kH.put (fun d' hd=>hn d' (by simp [hd])) h5⟩
theorem kH.lt{b:Nat}:∀{Df:List Deferred},kH b Df w→∀d∈Df,∀r,d.target=.collected r→r<w.heap.size
 |d::ds,⟨r,h1,_,h3,_,h5⟩,d',hd,r',e=>by
  rcases List.mem_cons.1 hd with rfl|hd
  ·rw [h1] at e;cases e
   exact(Array.getElem?_eq_some_iff.1 h3).1
  ·exact kH.lt h5 d' hd r' e
def zU(keep:Nat→Bool)(G N b:Nat)(M:Mp)(h:Hp)(w:World):Out→Exit→Act→World→Prop
 | .nor fr h',.normal,a,w'=>∃M' Df,kH b Df w'∧At keep G N Df M' fr h' a w'∧Ext M h w M' h' w'
 | .ret fr h',.ret,a,w'=>∃M' Df,kH b Df w'∧At keep G N Df M' fr h' a w'∧Ext M h w M' h' w'
 | .ex i fr h',.exit j,a,w'=>j=i∧∃M' Df,kH b Df w'∧At keep G N Df M' fr h' a w'∧Ext M h w M' h' w'
 |_,_,_,_=>False
theorem zU.trans{b:Nat}{M':Mp}{w':World}(x:Ext M h w M' h' w'){o:Out}{e:Exit}{a:Act}{v:World}(q:zU keep G N b M' h' w' o e a v):zU keep G N b M h w o e a v:=by
 cases o<;>cases e<;>simp only [zU] at q⊢
 ·obtain⟨M2,Df,m,p,y⟩:=q;exact⟨M2,Df,m,p,x.trans y⟩
 ·obtain⟨M2,Df,m,p,y⟩:=q;exact⟨M2,Df,m,p,x.trans y⟩
 ·obtain⟨rfl,M2,Df,m,p,y⟩:=q;exact⟨rfl,M2,Df,m,p,x.trans y⟩
def qc(P:Program)(keep:Nat→Bool)(G N:Nat)(c:Code)(D:F→Hp→Out):Prop:=
 ∀n b Df fr h M a w,D fr h≠ .bad→b≤w.heap.size→kH b Df w→At keep G N Df M fr h a w→c.wpIn (jb none) n P (zU keep G N b M h w (D fr h)) a w
theorem qc.lift{c:Code}{D:F→Hp→Out}(hc:eF P keep G N c D):qc P keep G N c D:=by
 intro n b Df fr h M a w hne hb hm at_
 refine wpIn_mono (hc none n Df fr h M a w hne at_) ?_
 intro x a' w' q
 generalize D fr h=o at q
 cases o<;>cases x<;>simp only [jf] at q
 ·obtain⟨M',p,y⟩:=q;exact⟨M',Df,hm.step at_.rel y,p,y⟩
 ·obtain⟨M',p,y⟩:=q;exact⟨M',Df,hm.step at_.rel y,p,y⟩
 ·obtain⟨e1,M',p,y⟩:=q;exact⟨e1,M',Df,hm.step at_.rel y,p,y⟩
theorem qc.seq{c d:Code}{D E:F→Hp→Out}(hc:qc P keep G N c D)(hd:qc P keep G N d E):qc P keep G N (.seq c d) (aB D E):=by
 intro n b Df fr h M a w hne hb hm at_
 refine wpIn_seq ?_
 unfold aB at hne⊢
 cases e1:D fr h with
 |bad=>rw [e1] at hne;exact absurd rfl hne
 |nor fr1 h1=>
  rw [e1] at hne
  refine wpIn_mono (hc n b Df fr h M a w (by rw [e1];simp) hb hm at_) ?_
  intro x a' w' q
  rw [e1] at q
  cases x<;>simp only [zU] at q
  obtain⟨M',Df',hm',at',hx⟩:=q
  exact wpIn_mono (hd n b Df' fr1 h1 M' a' w' hne (Nat.le_trans hb hx.size) hm' at') fun x a w q=>zU.trans hx q
 |ret fr1 h1=>
  refine wpIn_mono (hc n b Df fr h M a w (by rw [e1];simp) hb hm at_) ?_
  intro x a' w' q
  rw [e1] at q
  cases x<;>simp only [zU] at q
  exact q
 |ex i fr1 h1=>
  refine wpIn_mono (hc n b Df fr h M a w (by rw [e1];simp) hb hm at_) ?_
  intro x a' w' q
  rw [e1] at q
  cases x<;>simp only [zU] at q
  exact q
theorem qc.cond{x:Operand}{c d:Code}{D E:F→Hp→Out}(hg:∀g,x=.global g→g<G)(hc:qc P keep G N c D)(hd:qc P keep G N d E):qc P keep G N (.cond x c d) (aqf x D E):=by
 intro n b Df fr h M a w hne hb hm at_
 obtain⟨v,env,e1,hv,-⟩:=ahE hne at_ hg (lJ.nil M a) (rfl:aqf x D E fr h=_)
 rw [←e1] at hne⊢
 cases v<;>simp only [ne_eq,not_true_eq_false] at hne⊢
 rename_i t
 have ht:=hv.bool
 cases t
 ·exact wpIn_cond_false ht (hd n b Df fr h M a w hne hb hm at_)
 ·exact wpIn_cond_true ht (hc n b Df fr h M a w hne hb hm at_)
theorem qc.block{id:Nat}{c:Code}{D:F→Hp→Out}(hc:qc P keep G N c D):qc P keep G N (.block id c) (bP id D):=by
 intro n b Df fr h M a w hne hb hm at_
 refine wpIn_block ?_
 unfold bP at hne⊢
 cases e1:D fr h with
 |bad=>rw [e1] at hne;exact absurd rfl hne
 |nor fr1 h1=>
  refine wpIn_mono (hc n b Df fr h M a w (by rw [e1];simp) hb hm at_) ?_
  intro x a' w' q
  rw [e1] at q
  cases x<;>simp only [zU] at q
  exact q
 |ret fr1 h1=>
  refine wpIn_mono (hc n b Df fr h M a w (by rw [e1];simp) hb hm at_) ?_
  intro x a' w' q
  rw [e1] at q
  cases x<;>simp only [zU] at q
  exact q
 |ex i fr1 h1=>
  refine wpIn_mono (hc n b Df fr h M a w (by rw [e1];simp) hb hm at_) ?_
  intro x a' w' q
  rw [e1] at q
  cases x<;>simp only [zU] at q
  obtain⟨rfl,q⟩:=q
  simp only [Exit.inBlock]
  cases hb:Nat.beq _ id with
  |true=>rw [if_pos (Nat.eq_of_beq_eq_true hb)];exact q
  |false=>rw [if_neg (Nat.ne_of_beq_eq_false hb)];exact⟨rfl,q⟩
abbrev EY:=FuncId→Option ah5
def aaK(fi:EY)(keep:Nat→Bool)(g:Operand)(ps:List Nat)(Da Db:F→Hp→Out)(fr:F)(h:Hp):Out:=
 XW g [] fr fun v _=>match v with
 | .func fn a b=>(match fn with
  | .func f=>(match fi f with
   |some I=>(match I (tC keep ps Da Db fr) h.next.nat (a.list++(.func (.yield h.next.nat) .nil .nil::b.list)) (aH 1 h) with
    | .ok h' p=>(match p with
     |none=>.nor fr h'
     |some j=>(match j with| .ret=>.ret fr h'| .ex i=>.ex i fr h'))
    | .bad=>.bad)
   |none=>.bad)
  |_=>.bad)
 |_=>.bad
theorem qc.range{fi:EY}(hI:∀f I,fi f=some I→Ip P G f I){g:Operand}{ps:Array Tmp}{ca cb:Code}{Da Db:F→Hp→Out}(hg:∀x,g=.global x→x<G)(hps:∀t∈ps.toList,t<N)(hA:eF P keep G N ca Da)(hB:eF P keep G N cb Db):
  qc P keep G N (.rangeFunc g ps ca cb) (aaK fi keep g ps.toList Da Db):=by
 intro n b Df fr h M a w hne hb hm at_
 refine wpIn_rangeFunc fun fn _=>?_
 generalize hout:aaK fi keep g ps.toList Da Db fr h=out at hne
 unfold aaK at hout
 obtain⟨v,env,e1,hv,-⟩:=ahE hne at_ hg (lJ.nil M a) hout
 clear hout
 split at e1
 ·rename_i fnv va vb
  split at e1
  ·rename_i f
   split at e1
   ·rename_i I hfi
    split at e1
    ·rename_i h' p hrun
     obtain⟨hcall,hiter⟩:=hI f I hfi
     obtain⟨g0,xs,ys,hg0,hx',hy',hgv⟩:=hv.func
     obtain rfl:g0=.func f:=hg0
     let L:Loop:={state:=.ready,pending:=none,fn,tmps:=a.tmps,params:=ps,assign:=ca,body:=cb,defers:=w.heap.size}
     let B:Rng:={M:=M,h:=h,w:=w,kp:=h.next,l:=w.heap.size+1,L:=L}
     let w1:=(w.alloc (.deferred (some []))).alloc (.loop L)
     have hs1:(w.alloc (.deferred (some []))).heap.size=w.heap.size+1:=World.size_alloc _ _
     have r1:Rel G M h w1:=(at_.rel.UN _).UN _
     have x1:Ext M h w M h w1:=((Ext.refl at_.rel).UN _).UN _
     obtain⟨r2,x2⟩:=aFv r1 ⟨w.heap.size+1,0,0⟩
     have hle:=x2.le
     generalize hM1:M.add h.next ⟨w.heap.size+1,0,0⟩=M1 at r2 x2 hle
     have hky:M1 h.next=some ⟨w.heap.size+1,0,0⟩:=by rw [←hM1];exact M.fE _ _
     have g1:Goes B none M1 (aH 1 h) w1:=by
      refine⟨x1.trans x2,hky,Nat.lt_succ_self _,?_,?_⟩
      ·show w1.heap[w.heap.size+1]?=some (.loop L)
       rw [←hs1];exact World.alloc_heap_new _ _
      ·show((w.alloc (.deferred (some []))).heap.push (.loop L))[w.heap.size]?=some (.deferred (some []))
       rw [Array.getElem?_push,if_neg (by omega)]
       exact World.alloc_heap_new _ _
     have hY:YOk P G B (tC keep ps.toList Da Db fr):=fun args cargs h2 M2 w2 n2 R hr2 ha2 g2 hy2=>
      aHw (B:=B) (fr0:=fr) hA hB at_.fr at_.size hps hr2 ha2 g2 hy2
     have hargs:bZ M1 (va.list++(.func (.yield h.next.nat) .nil .nil::vb.list)) (xs++(.func (.yield (w.heap.size+1)) #[] #[]::ys)):=by
      refine(hx'.mono hle).append ⟨_,_,⟨rfl,.yield (w.heap.size+1),[],[],⟨_,by rw [Pos.Uz];exact hky,rfl⟩,⟨rfl,rfl⟩,rfl,rfl,rfl⟩,hy'.mono hle,rfl⟩
     refine⟨w.heap.size+1,[{target:=.collected w.heap.size,args:= #[]}],w1,{target:=.fn (.func f) ys.toArray,args:=xs.toArray++ #[.func (.yield (w.heap.size+1)) #[] #[]]},w1,f,(xs++(.func (.yield (w.heap.size+1)) #[] #[]::ys)).toArray,w1,run_enterLoop_outer _ _ _ _ _,?_,fun _ _=>trivial,?_,fun hx=>by simp [jb,Fence.wide] at hx,?_⟩
     ·simp only [resolve,rangeCall,hgv,Deferred.ofValue]
      simp [Act.eval]
     ·have:=hcall ((xs.toArray++ #[.func (.yield (w.heap.size+1)) #[] #[]])++ys.toArray) w1
      have e2:((xs.toArray++ #[Value.func (.yield (w.heap.size+1)) #[] #[]])++ys.toArray)=(xs++(.func (.yield (w.heap.size+1)) #[] #[]::ys)).toArray:=by simp
      rw [←e2]
      exact this
     ·refine CallsIn.mono (hiter B _ _ _ _ h' p M1 w1 _ hY hrun r2 hargs g1) ?_
      rintro x w3 ⟨c,rfl,M3,r3,g3⟩
      have hlt3:w.heap.size+1<w3.heap.size:=(Array.getElem?_eq_some_iff.1 g3.st).1
      refine⟨_,_,run_endLoop g3.st (by cases p<;>simp [xB]),?_⟩
      have r4:=r3.putObj g3.st rfl (.loop {xB B.L p with state:=.exhausted})
      have x4:Ext M h w M3 h' (w3.putObj B.l (.loop {xB B.L p with state:=.exhausted})):=g3.ext.putObj (b:=B.l) (by show w.heap.size≤w.heap.size+1;omega) _
      have mk4:(w3.putObj B.l (.loop {xB B.L p with state:=.exhausted})).heap[w.heap.size]?=some (.deferred (some [])):=by
       rw [World.putObj_heap_other (by show w.heap.size≠w.heap.size+1;omega)];exact g3.mrk
      generalize w3.putObj B.l (.loop {xB B.L p with state:=.exhausted})=w4 at r4 x4 mk4
      have m4:kH b ([{target:=.collected w.heap.size,args:= #[]}]++a.defers) w4:=by
       rw [show a.defers=Df from at_.plain]
       refine⟨w.heap.size,rfl,hb,mk4,fun d' hd' e=>?_,hm.step at_.rel x4⟩
       exact Nat.lt_irrefl _ (hm.lt d' hd' _ e)
      have at4:At keep G N ([{target:=.collected w.heap.size,args:= #[]}]++a.defers) M3 fr h' {a with defers:= [{target:=.collected w.heap.size,args:= #[]}]++a.defers} w4:=⟨r4,at_.fr.mono x4.le,at_.size,rfl⟩
      cases p with
      |none=>
       subst e1
       exact⟨M3,_,m4,at4,x4⟩
      |some j=>
       cases j with
       |ret=>
        subst e1
        exact wpIn_ret ⟨M3,_,m4,at4,x4⟩
       |ex i=>
        subst e1
        exact wpIn_exit ⟨rfl,M3,_,m4,at4,x4⟩
    ·exact absurd e1.symm hne
   ·exact absurd e1.symm hne
  ·exact absurd e1.symm hne
 ·exact absurd e1.symm hne
def ranges:Code→Bool
 | .rangeFunc .. =>true
 | .seq a b=>ranges a||ranges b
 | .cond _ a b=>ranges a||ranges b
 | .block _ b=>ranges b
 |_=>false
def H9(P:Program)(G N:Nat)(keep:Nat→Bool)(e:FuncId→Option Fun)(fi:EY)(pl:cO)(lf:Nat):Code→F→Hp→Out
 | .seq a b=>(match ranges (.seq a b) with
  |true=>aB (H9 P G N keep e fi pl lf a) (H9 P G N keep e fi pl lf b)
  |false=>lS P G N keep e pl lf (.seq a b))
 | .cond c a b=>(match ranges (.cond c a b) with
  |true=>aqf c (H9 P G N keep e fi pl lf a) (H9 P G N keep e fi pl lf b)
  |false=>lS P G N keep e pl lf (.cond c a b))
 | .block id b=>(match ranges (.block id b) with
  |true=>bP id (H9 P G N keep e fi pl lf b)
  |false=>lS P G N keep e pl lf (.block id b))
 | .rangeFunc g ps ca cb=>aaK fi keep g ps.toList (lS P G N keep e pl lf ca) (lS P G N keep e pl lf cb)
 |c=>lS P G N keep e pl lf c
def ana(G:Nat)(g:Operand):Bool:=match g with| .global x=>Nat.blt x G|_=>true
theorem arU{g:Operand}(h:ana G g=true):∀x,g=.global x→x<G:=fun x e=>by
 subst e
 simpa [ana,Nat.blt_eq] using h
def wE(G N:Nat):Code→Bool
 | .seq a b=>(match ranges (.seq a b) with|true=>wE G N a&&wE G N b|false=>codeOk G N (.seq a b))
 | .cond c a b=>(match ranges (.cond c a b) with|true=>ana G c&&(wE G N a&&wE G N b)|false=>codeOk G N (.cond c a b))
 | .block id b=>(match ranges (.block id b) with|true=>wE G N b|false=>codeOk G N (.block id b))
 | .rangeFunc g ps ca cb=>ana G g&&((ps.toList.all fun t=>Nat.blt t N)&&(codeOk G N ca&&codeOk G N cb))
 |c=>codeOk G N c
theorem TY(hm:P.follows .mixedOrders=true)(hE:∀f F,e f=some F→aJ P G f F){fi:EY}(hI:∀f I,fi f=some I→Ip P G f I)(pl:cO)(lf:Nat):(c:Code)→wE G N c=true→qc P keep G N c (H9 P G N keep e fi pl lf c)
 | .seq a b,hc=>by
  unfold wE at hc
  unfold H9
  split at hc
  ·rename_i hd
   try rw [hd]
   simp only [Bool.and_eq_true] at hc
   exact .seq (TY hm hE hI pl lf a hc.1) (TY hm hE hI pl lf b hc.2)
  ·rename_i hd
   try rw [hd]
   exact .lift (eG hm hE pl lf _ hc)
 | .cond c a b,hc=>by
  unfold wE at hc
  unfold H9
  split at hc
  ·rename_i hd
   try rw [hd]
   simp only [Bool.and_eq_true] at hc
   exact .cond (arU hc.1) (TY hm hE hI pl lf a hc.2.1) (TY hm hE hI pl lf b hc.2.2)
  ·rename_i hd
   try rw [hd]
   exact .lift (eG hm hE pl lf _ hc)
 | .block id b,hc=>by
  unfold wE at hc
  unfold H9
  split at hc
  ·rename_i hd
   try rw [hd]
   exact .block (TY hm hE hI pl lf b hc)
  ·rename_i hd
   try rw [hd]
   exact .lift (eG hm hE pl lf _ hc)
 | .rangeFunc g ps ca cb,hc=>by
  unfold wE at hc
  simp only [Bool.and_eq_true,List.all_eq_true] at hc
  unfold H9
  exact .range hI (arU hc.1) (fun t ht=>by simpa [Nat.blt_eq] using hc.2.1 t ht) (eG hm hE pl lf _ hc.2.2.1) (eG hm hE pl lf _ hc.2.2.2)
 | .region _ _ _,hc=>.lift (eG hm hE pl lf _ hc)
 | .loop _,hc=>.lift (eG hm hE pl lf _ hc)
 | .skip,hc=>.lift (eG hm hE pl lf _ hc)
 | .label _,hc=>.lift (eG hm hE pl lf _ hc)
 | .exit _,hc=>.lift (eG hm hE pl lf _ hc)
 | .ret,hc=>.lift (eG hm hE pl lf _ hc)
 | .scope _,hc=>.lift (eG hm hE pl lf _ hc)
 | .goto _,hc=>.lift (eG hm hE pl lf _ hc)
 | .refuse _,hc=>.lift (eG hm hE pl lf _ hc)
theorem avq{fn:Func}{tmps:Array Value}{R:Ending→World→Prop}{n:Nat}{M0:Mp}{h0:Hp}{w0:World}:∀{Df:List Deferred} {h':Hp} {M':Mp} {w':World},kH w0.heap.size Df w'→Rel G M' h' w'→Ext M0 h0 w0 M' h' w'→
  (∀w'',Rel G M' h' w''→Ext M0 h0 w0 M' h' w''→∃v,(results fn tmps).run P w''=.ok v w''∧R (.returned v) w'')→LeavesInM (jb none) n P fn tmps R Df .returning w'
 | [],h',M',w',_,hr,hx,hK=>hK w' hr hx
 |d::ds,h',M',w',⟨r,h1,h2,h3,h4,h5⟩,hr,hx,hK=>
  ⟨by simp,.inl ⟨r,_,h1,run_takeDeferred h3,avq (h5.put h4) (hr.putObj h3 rfl _) (hx.putObj h2 _) hK⟩⟩
def avE(P:Program)(G:Nat)(keep:Nat→Bool)(e:FuncId→Option Fun)(fi:EY)(pl:cO)(lf:Nat)(fn:Func):Fun:=match fn.body with
 |some c=>bG P keep fn.ntmps fn.results.toList (H9 P G fn.ntmps keep e fi pl lf c)
 |none=>fun _ _=>.bad
theorem aKb(hm:P.follows .mixedOrders=true){f:FuncId}{fn:Func}{fi:EY}{pl:cO}{lf:Nat}(hE:∀f F,e f=some F→aJ P G f F)(hI:∀f I,fi f=some I→Ip P G f I)(hf:P.funcs[f]?=some fn)(ho:((match fn.body with|some c=>wE G fn.ntmps c|none=>false)&&!(fn.name== "runtime.NumGoroutine"))=true):aJ P G f (avE P G keep e fi pl lf fn):=by
 simp only [Bool.and_eq_true,Bool.not_eq_true'] at ho
 unfold avE
 cases hb:fn.body with
 |none=>rw [hb] at ho;cases ho.1
 |some c=>
  rw [hb] at ho
  have hD:=TY (keep:=keep) hm hE hI pl lf c ho.1
  intro args h r h' M w cargs e0 hr hargs
  rw [aeI hf ho.2 hb]
  simp only [Opq]
  simp only [bG] at e0
  split at e0
  ·rename_i hle
   have hat:=aAA (keep:=keep) (fn:=fn) hr hargs (Nat.le_of_ble_eq_true hle)
   refine(aip (ro:=none) (n:=0)).1 (callsIn_of_wp_marks hf hb trivial ?_ rfl)
   cases e1:H9 P G fn.ntmps keep e fi pl lf c (xJ keep 0 args .nil) h with
   |bad=>rw [e1] at e0;cases e0
   |ex i fr2 h2=>rw [e1] at e0;cases e0
   |nor fr2 h2=>
    rw [e1] at e0
    refine wpIn_mono (hD 0 w.heap.size [] _ _ _ _ _ (by rw [e1];simp) (Nat.le_refl _) trivial hat) ?_
    intro x a' w' q
    rw [e1] at q
    cases x<;>simp only [zU] at q
    obtain⟨M',Df,m',at',hx⟩:=q
    show LeavesInM _ _ _ _ _ _ a'.defers _ _
    rw [show a'.defers=Df from at'.plain]
    refine avq m' at'.rel hx fun w2 r2 x2=>?_
    obtain⟨rfl,v,hv,hrv⟩:=Sv r2 at'.fr e0
    exact⟨v,hv,v,rfl,M',hrv,r2,x2⟩
   |ret fr2 h2=>
    rw [e1] at e0
    refine wpIn_mono (hD 0 w.heap.size [] _ _ _ _ _ (by rw [e1];simp) (Nat.le_refl _) trivial hat) ?_
    intro x a' w' q
    rw [e1] at q
    cases x<;>simp only [zU] at q
    obtain⟨M',Df,m',at',hx⟩:=q
    show LeavesInM _ _ _ _ _ _ a'.defers _ _
    rw [show a'.defers=Df from at'.plain]
    refine avq m' at'.rel hx fun w2 r2 x2=>?_
    obtain⟨rfl,v,hv,hrv⟩:=Sv r2 at'.fr e0
    exact⟨v,hv,v,rfl,M',hrv,r2,x2⟩
  ·cases e0
end
end Go.Vm

noncomputable section
namespace Go.Vm
theorem aE5{P:Program}{G:Nat}:∀f I,(fun _=>none:EY) f=some I→Ip P G f I:=fun _ _ h=>by cases h
theorem avt{P:Program}{G:Nat}{g:FuncId}{I:ah5}{e:EY}(h1:Ip P G g I)(h2:∀f F,e f=some F→Ip P G f F):∀f F',(fun f=>match Nat.beq f g with|true=>some I|false=>e f:EY) f=some F'→Ip P G f F':=by
 intro f F' h
 simp only [] at h
 split at h
 ·rename_i hb;cases h;rw [Nat.eq_of_beq_eq_true hb];exact h1
 ·exact h2 f F' h
end Go.Vm

namespace Go.Vm
noncomputable section
variable{P:Program}{el:TypeId}
def badR(_:Hp):R V:=.bad
def aQd(_:F)(_:Hp):Out:=.bad
theorem dS:lf=10000000000000000000:=rfl
@[congr] theorem aPr{o o':Out}(e:o=o')(k:F→Hp→Out):nC o k=nC o' k:=by rw [e]
@[congr] theorem aP1{o o':Option V}(e:o=o')(k:V→Out):gtO o k=gtO o' k:=by rw [e]
@[congr] theorem aPJ{o o':R V}(e:o=o')(k:V→Hp→Out):aA o k=aA o' k:=by rw [e]
@[congr] theorem aPL{o o':A}(e:o=o')(k:Ob→(Pos→V)→Out):FT o k=FT o' k:=by rw [e]
@[congr] theorem aP0{o o':V}(e:o=o')(a b:Out):ifB o a b=ifB o' a b:=by rw [e]
theorem Y1(a b:F→Hp→Out)(fr:F)(h:Hp):aB a b fr h=nC (a fr h) b:=(rfl)
theorem N8(fr:F)(h:Hp)(k:F→Hp→Out):nC (.nor fr h) k=k fr h:=(rfl)
theorem arl(fr:F)(h:Hp)(k:F→Hp→Out):nC (.ret fr h) k=.ret fr h:=(rfl)
theorem aua(i:Nat)(fr:F)(h:Hp)(k:F→Hp→Out):nC (.ex i fr h) k=.ex i fr h:=(rfl)
theorem akG(v:V)(k:V→Out):gtO (some v) k=k v:=(rfl)
theorem aqk(v:V)(h:Hp)(k:V→Hp→Out):aA (.ok v h) k=k v h:=(rfl)
theorem ar4(ob:Ob)(mk:Pos→V)(k:Ob→(Pos→V)→Out):FT (some (ob,mk)) k=k ob mk:=(rfl)
theorem avw(a b:Out):ifB (.bool true) a b=a:=(rfl)
theorem arS(a b:Out):ifB (.bool false) a b=b:=(rfl)
theorem ap3{p:Prop} [Decidable p](hp:p)(a b:Out):ifB (.bool (decide p)) a b=a:=by rw [decide_eq_true hp];rfl
theorem ap4{p:Prop} [Decidable p](hp:¬p)(a b:Out):ifB (.bool (decide p)) a b=b:=by rw [decide_eq_false hp];rfl
theorem akN(t:Nat)(a b:F→Hp→Out)(fr:F)(h:Hp):aV (.tmp t) a b fr h=gtO (fr.get (Pos.of t)) fun v=>ifB v (a fr h) (b fr h):=(rfl)
def wF(id:Nat)(o:Out):Out:=match o with
 | .ex i fr h=>(match Nat.beq i id with|true=>.nor fr h|false=>.ex i fr h)
 |o=>o
theorem aAY(id:Nat)(b:F→Hp→Out)(fr:F)(h:Hp):bP id b fr h=wF id (b fr h):=by unfold bP wF;cases b fr h<;>rfl
theorem av8(id:Nat)(fr:F)(h:Hp):wF id (.nor fr h)=.nor fr h:=(rfl)
theorem av7(id:Nat)(fr:F)(h:Hp):wF id (.ret fr h)=.ret fr h:=(rfl)
theorem aql(id i:Nat)(fr:F)(h:Hp):wF id (.ex i fr h)=if i=id then .nor fr h else .ex i fr h:=by
 unfold wF
 split
 ·rename_i hc;cases hc
  split
  ·rename_i hb;rw [if_pos (Nat.eq_of_beq_eq_true hb)]
  ·rename_i hb;rw [if_neg (Nat.ne_of_beq_eq_false hb)]
 ·rename_i hn;exact absurd rfl (hn _ _ _)
theorem tX(m n:Nat)(x:Option V)(fr:F):(T.set x (Pos.of m) fr).get (Pos.of n)=if n=m then x else fr.get (Pos.of n):=by
 by_cases e:n=m
 ·subst e;rw [if_pos rfl,T.oK]
 ·rw [if_neg e,T.tY _ (fun h=>e (Pos.aeT h))]
theorem akO{m:Hp→R V}{v:V}{k:Out}{l:List Hp}:chk m v k 0 l=k:=by cases l<;>rfl
theorem aAW{m:Hp→R V}{v:V}{k:Out}{n:Nat}:chk m v k n []=k:=by cases n<;>rfl
def Oc(A B:F→Hp→Prop):Out→Prop
 | .nor fr h=>A fr h
 | .ret fr h=>B fr h
 |_=>False
def LS(id:Nat)(C A B:F→Hp→Prop):Out→Prop
 | .nor fr h=>C fr h
 | .ex i fr h=>i=id∧A fr h
 | .ret fr h=>B fr h
 | .bad=>False
theorem dR{id:Nat}{body:F→Hp→Out}(I:Nat→F→Hp→Prop){A B:F→Hp→Prop}{n:Nat}{fr:F}{h:Hp}(hn:n<lf)(hI:I n fr h)
  (step:∀m fr h,I m fr h→LS id (fun fr h=>∃m',m'<m∧I m' fr h) A B (body fr h)):Oc A B (wF id (dI body lf fr h)):=by
 have key:∀l n fr h,n<l→I n fr h→Oc A B (wF id (dI body l fr h)):=by
  intro l
  induction l with
  |zero=>intro n fr h hn;omega
  |succ l ih=>
   intro n fr h hn hI
   have hs:=step n fr h hI
   rw [amX]
   cases e:body fr h with
   |bad=>rw [e] at hs;exact hs.elim
   |nor fr1 h1=>
    rw [e] at hs
    obtain⟨m',hm,hI'⟩:=hs
    exact ih m' fr1 h1 (by omega) hI'
   |ret fr1 h1=>rw [e] at hs;exact hs
   |ex i fr1 h1=>
    rw [e] at hs
    obtain⟨rfl,hA⟩:=hs
    simp only [aql,if_true]
    exact hA
 exact key lf n fr h hn hI
theorem Oc.then{A B:F→Hp→Prop}{o:Out}{k:F→Hp→Out}{Q:Out→Prop}(ho:Oc A B o)(hA:∀fr h,A fr h→Q (k fr h))(hB:∀fr h,B fr h→Q (.ret fr h)):Q (nC o k):=by
 cases o with
 |nor fr h=>exact hA fr h ho
 |ret fr h=>exact hB fr h ho
 |ex i fr h=>exact ho.elim
 |bad=>exact ho.elim
def aU(P:Program)(rs:List ResultVar)(Q:V→Hp→Prop)(o:Out):Prop:=∃r h,aT P rs o=.ok r h∧Q r h
theorem aU.ret{rs:List ResultVar}{Q:V→Hp→Prop}{fr:F}{h:Hp}{r:V}{h':Hp}(e:bD P rs fr h (fun vs=>bF vs h)=.ok r h')(hq:Q r h'):aU P rs Q (.ret fr h):=⟨r,h',e,hq⟩
theorem aU.nor{rs:List ResultVar}{Q:V→Hp→Prop}{fr:F}{h:Hp}{r:V}{h':Hp}(e:bD P rs fr h (fun vs=>bF vs h)=.ok r h')(hq:Q r h'):aU P rs Q (.nor fr h):=⟨r,h',e,hq⟩
theorem Ba(a b:Int):oq a b=decide (a=b):=by rw [A7];rfl
theorem Gq(a b:Int):vS a b=decide (a≤b):=UH a b
variable{h:Hp}{k:IntKind}{a b:Int}{c:EqC}
theorem xI(k:IntKind):Nat.beq (kix k) (kix k)=true:=by cases k<;>rfl
theorem wrap64_in{n:Int}(h1: -9223372036854775808≤n)(h2:n<9223372036854775808):wrap64 n=n:=by rw [arh];exact wrap_in h1 h2
theorem FK(h1: -9223372036854775808≤a+b)(h2:a+b<9223372036854775808):aI .add c (.int .i64 a) (.int .i64 b) h=.ok (.int .i64 (a+b)) h:=by
 show iw .i64 (wrap64 (a+b)) h=_
 rw [wrap64_in h1 h2,fP]
theorem aaR(h1: -9223372036854775808≤a - b)(h2:a - b<9223372036854775808):aI .sub c (.int .i64 a) (.int .i64 b) h=.ok (.int .i64 (a - b)) h:=by
 show iw .i64 (wrap64 (a - b)) h=_
 rw [wrap64_in h1 h2,fP]
theorem au6(h0:b≠0):aI .rem c (.int .i64 a) (.int .i64 b) h=.ok (.int .i64 (a.tmod b)) h:=by
 show(match oq b 0 with|true=>R.bad|false=>iw .i64 (Int.tmod a b) h)=_
 rw [Ba,decide_eq_false h0,fP]
theorem avd:aI .eql c (.int k a) (.int k b) h=.ok (.bool (decide (a=b))) h:=by
 show(match Nat.beq (kix k) (kix k) with|true=>fM (oq a b) h|false=>.bad)=_
 rw [xI,gm,Ba]
theorem au8:aI .neq c (.int k a) (.int k b) h=.ok (.bool (decide (a≠b))) h:=by
 show(match Nat.beq (kix k) (kix k) with|true=>fM (not (oq a b)) h|false=>.bad)=_
 rw [xI,gm,Ba];simp
theorem au9:aI .lss c (.int k a) (.int k b) h=.ok (.bool (decide (a<b))) h:=by
 show(match Nat.beq (kix k) (kix k) with|true=>fM (not (vS b a)) h|false=>.bad)=_
 rw [xI,gm,Gq,show(!decide (b≤a))=decide (a<b) from by rw [Bool.eq_iff_iff];simp]
theorem ava:aI .leq c (.int k a) (.int k b) h=.ok (.bool (decide (a≤b))) h:=by
 show(match Nat.beq (kix k) (kix k) with|true=>fM (vS a b) h|false=>.bad)=_
 rw [xI,gm,Gq]
theorem avb:aI .gtr c (.int k a) (.int k b) h=.ok (.bool (decide (a>b))) h:=by
 show(match Nat.beq (kix k) (kix k) with|true=>fM (not (vS a b)) h|false=>.bad)=_
 rw [xI,gm,Gq,show(!decide (a≤b))=decide (a>b) from by rw [Bool.eq_iff_iff];simp]
theorem avc:aI .geq c (.int k a) (.int k b) h=.ok (.bool (decide (a≥b))) h:=by
 show(match Nat.beq (kix k) (kix k) with|true=>fM (vS b a) h|false=>.bad)=_
 rw [xI,gm,Gq]
theorem aAf(q:Bool):oUn .not (.bool q) h=.ok (.bool (!q)) h:=by show fM (not q) h=_;rw [gm]
theorem amL(x y:V):atI (.bool true) x y h=.ok x h:=(rfl)
theorem aiy(x y:V):atI (.bool false) x y h=.ok y h:=(rfl)
theorem amP(x:V)(l:V):bJ 0 (.tuple (.cons x l)) h=.ok x h:=(rfl)
theorem amO(x y:V)(l:V):bJ 1 (.tuple (.cons x (.cons y l))) h=.ok y h:=(rfl)
theorem amN(x y z:V)(l:V):bJ 2 (.tuple (.cons x (.cons y (.cons z l)))) h=.ok z h:=(rfl)
theorem aAh:apO (.int k a) (.int k b) h=.ok (.int k (min a b)) h:=by
 show(match vS a b with|true=>R.ok (V.int k a) h|false=>.ok (.int k b) h)=_
 rw [Gq]
 by_cases hl:a≤b
 ·rw [decide_eq_true hl,Int.min_eq_left hl]
 ·rw [decide_eq_false hl,Int.min_eq_right (by omega)]
theorem aAi:apP (.int k a) (.int k b) h=.ok (.int k (max a b)) h:=by
 show(match vS b a with|true=>R.ok (V.int k a) h|false=>.ok (.int k b) h)=_
 rw [Gq]
 by_cases hl:b≤a
 ·rw [decide_eq_true hl,Int.max_eq_left hl]
 ·rw [decide_eq_false hl,Int.max_eq_right (by omega)]
theorem aeV(h1: -9223372036854775808≤a)(h2:a<9223372036854775808):kU .i64 (.int k a) h=.ok (.int .i64 a) h:=by
 show iw .i64 (wrap64 a) h=_
 rw [wrap64_in h1 h2,fP]
theorem Y9(z y:V)(j k:IntKind)(a b:Int):bI el [z,y] 2 [(0,1,.int j a),(1,1,.int k b)] h=.ok (.slice h.next 0 2 (.kn 2)) (h.new (.cells (.rw el true) [.int j a,.int k b])):=(rfl)
theorem aAJ(d d':TypeDesc)(a b a' b':Int)(k k':IntKind)(hd:nM d (.int k a)=true)(hd':nM d' (.int k' b)=true):NK [(d,0),(d',1)] [.int k a,.int k' b] [.int k a',.int k' b']=some (decide (a=a'∧b=b')):=by
 have h1:iR (.int k a) (.int k a')=some (decide (a=a')):=by
  show(match Nat.beq (kix k) (kix k) with|true=>some (oq a a')|false=>none)=_
  rw [xI,Ba]
 have h2:iR (.int k' b) (.int k' b')=some (decide (b=b')):=by
  show(match Nat.beq (kix k') (kix k') with|true=>some (oq b b')|false=>none)=_
  rw [xI,Ba]
 simp only [NK,nK,List.getElem?_cons_zero,List.getElem?_cons_succ,hd,hd',h1,h2]
 by_cases e:a=a'<;>by_cases e':b=b'<;>simp [e,e']
theorem UC(a b a' b':Int):ahL .eql [((.int .i64),0),((.int .i64),1)] (.agg (.cons (.int .i64 a) (.cons (.int .i64 b) .nil))) (.agg (.cons (.int .i64 a') (.cons (.int .i64 b') .nil))) h=.ok (.bool (decide (a=a'∧b=b'))) h:=by
 show(match NK _ [.int .i64 a,.int .i64 b] [.int .i64 a',.int .i64 b'] with|some q=>(match BinOp.eql with| .eql=>fM q h| .neq=>fM (not q) h|_=>.bad)|none=>.bad)=_
 rw [aAJ _ _ _ _ _ _ _ _ rfl rfl]
 exact gm _ _
theorem aeZ(a b a' b':Int):ahL .neq [((.int .i64),0),((.int .i64),1)] (.agg (.cons (.int .i64 a) (.cons (.int .i64 b) .nil))) (.agg (.cons (.int .i64 a') (.cons (.int .i64 b') .nil))) h=.ok (.bool (decide ¬(a=a'∧b=b'))) h:=by
 show(match NK _ [.int .i64 a,.int .i64 b] [.int .i64 a',.int .i64 b'] with|some q=>(match BinOp.neq with| .eql=>fM q h| .neq=>fM (not q) h|_=>.bad)|none=>.bad)=_
 rw [aAJ _ _ _ _ _ _ _ _ rfl rfl]
 refine(gm _ _).trans ?_
 congr 2
 by_cases e:a=a'∧b=b'<;>simp [e]
theorem acR(i:Pos)(o off:Nat):aC off (.ptr i o) h=.ok (.ptr i (o+off)) h:=by show eu (o+off) (fun q=>R.ok (V.ptr i q) h)=_;rw [dB]
theorem aEO{i j:Pos}(h:i.nat≠j.nat):i≠j:=fun e=>h (by rw [e])
theorem aCQ{i j:Pos}(h:i≠j):i.nat≠j.nat:=fun e=>h (Pos.wu e)
theorem dJ(h:Hp)(i:Pos)(o:Option Ob):(h.put i o).get i=o:=h.dW i o
theorem Oi(h:Hp){i j:Pos}(hn:j.nat≠i.nat)(o:Option Ob):(h.put i o).get j=h.get j:=h.cZ (aEO hn) o
theorem dD(h:Hp)(o:Ob):(h.new o).get h.next=some o:=h.qP o
theorem new_ne(h:Hp){j:Pos}(hn:j.nat≠h.next.nat)(o:Ob):(h.new o).get j=h.get j:=h.jy (aEO hn) o
theorem jr(h:Hp)(i:Pos)(o:Option Ob):(h.put i o).next=h.next:=(rfl)
theorem aHI(h:Hp)(o:Ob):(h.new o).next=h.next.succ:=(rfl)
theorem aZ(h:Hp)(o:Ob):(h.new o).next.nat=h.next.nat+1:=Pos.eY _
theorem ann(h:Hp):aH 0 h=h:=(rfl)
theorem qp(n:Nat)(h:Hp):(aH n h).next.nat=h.next.nat+n:=akP n _
structure Fr (b:Nat) (h h':Hp):Prop where
 next:h.next.nat≤h'.next.nat
 get:∀j,j.nat<b→h'.get j=h.get j
structure Sl (b:Nat) (h:Hp) (sz:Nat) (v:V) (n:Nat) (cs:List V):Prop where
 len:cs.length=n*sz
 is:(n=0∧(v=.aG∨v=.emp))∨∃i o c wr all,v=.slice i o n c∧i.nat<b∧(h.get i).bind Ob.row=some (wr,all)∧∀k,k<n*sz→all[o+k]?=cs[k]?
variable{b' n sz bt:Nat}{h':Hp}{v x:V}{cs:List V}
theorem Sl.le{b:Nat}(s:Sl b h sz v n cs)(hb:b≤b'):Sl b' h sz v n cs:=⟨s.len,s.is.imp id fun⟨i,o,c,wr,all,e,hi,r⟩=>⟨i,o,c,wr,all,e,by omega,r⟩⟩
theorem dP{i:Pos}{wr:Wr}{all:List V}(hg:(h.get i).bind Ob.row=some (wr,all))(f:Wr→List V→R V):dQ h i f=f wr all:=by
 unfold dQ
 cases e:h.get i with
 |none=>rw [e] at hg;cases hg
 |some o=>
  rw [e] at hg
  cases o<;>cases hg<;>rfl
theorem amM{i:Pos}{wr:Wr}{all:List V}{q:Nat}{x:V}(hg:(h.get i).bind Ob.row=some (wr,all))(hx:all[q]?=some x):aF (.ptr i q) h=.ok x h:=by
 show dQ h i _=_
 rw [dP hg,nK,hx]
theorem Sl.length{b:Nat}(s:Sl b h sz v n cs):aY 2 v h'=.ok (.int .i64 n) h':=by
 rcases s.is with⟨rfl,rfl|rfl⟩|⟨i,o,c,wr,all,rfl,_⟩<;>rfl
theorem zl{i:Pos}{o m:Nat}{c:Cap}{j:IntKind}(hm:m<n):bU sz (.slice i o n c) (.int j (m:Int)) h=.ok (.ptr i (o+m*sz)) h:=by
 show(match Nat.blt m n with|true=>eu (o+m*sz) fun q=>R.ok (V.ptr i q) h|false=>.bad)=_
 have:Nat.blt m n=true:=by simpa [Nat.blt_eq] using hm
 rw [this,dB]
theorem Sl.at{b:Nat}(s:Sl b h sz v n cs){m:Nat}(hm:m<n):∃i q,(∀h',bU sz v (.int .i64 (m:Int)) h'=.ok (.ptr i q) h')∧i.nat<b∧∀h',h'.get i=h.get i→∀f x,f<sz→cs[m*sz+f]?=some x→aF (.ptr i (q+f)) h'=.ok x h':=by
 rcases s.is with⟨rfl,_⟩|⟨i,o,c,wr,all,rfl,hi,hg,ha⟩
 ·omega
 ·refine⟨i,o+m*sz,fun h'=>zl hm,hi,fun h' he f x hf hx=>?_⟩
  refine amM (by rw [he];exact hg) ?_
  have hlt:m*sz+f<n*sz:=by
   have h1:m*sz+sz≤n*sz:=by rw [←Nat.succ_mul];exact Nat.mul_le_mul_right sz hm
   omega
  rw [←hx,←ha _ hlt,Nat.add_assoc]
theorem Sl.at1{b:Nat}(s:Sl b h 1 v n cs){m:Nat}(hm:m<n):∃i q x,cs[m]?=some x∧(∀h',bU 1 v (.int .i64 (m:Int)) h'=.ok (.ptr i q) h')∧i.nat<b∧∀h',h'.get i=h.get i→aF (.ptr i q) h'=.ok x h':=by
 obtain⟨i,q,h1,h2,h3⟩:=s.at hm
 have hl:=s.len
 have hx:cs[m]?=some cs[m]:=List.getElem?_eq_getElem (by omega)
 exact⟨i,q,_,hx,h1,h2,fun h' he=>h3 h' he 0 _ (by omega) (by simp only [Nat.mul_one,Nat.add_zero];exact hx)⟩
theorem ve{all cs:List V}{q m:Nat}(hk:∀f,f<m→all[q+f]?=cs[f]?)(hl:cs.length=m):gB m (fG q all)=some cs:=by
 have hm:∀f,f<m→(all.drop q)[f]?=cs[f]?:=fun f hf=>by rw [List.getElem?_drop];exact hk f hf
 have hle:m≤(all.drop q).length:=by
  rcases Nat.lt_or_ge (all.drop q).length m with hlt|hge
  ·have:=hm _ hlt
   rw [List.getElem?_eq_none (Nat.le_refl _),List.getElem?_eq_getElem (by omega)] at this
   cases this
  ·exact hge
 rw [jT,Hy hle]
 congr 1
 apply List.ext_getElem?
 intro f
 rw [List.getElem?_take]
 split
 ·rename_i hf;exact hm f hf
 ·rename_i hf;rw [List.getElem?_eq_none (by omega)]
theorem Sl.atN{b:Nat}(s:Sl b h sz v n cs){m:Nat}(hm:m<n):∃i q,(∀h',bU sz v (.int .i64 (m:Int)) h'=.ok (.ptr i q) h')∧i.nat<b∧
  (∀h',h'.get i=h.get i→∀f x,f<sz→cs[m*sz+f]?=some x→aF (.ptr i (q+f)) h'=.ok x h')∧
  ∀h',h'.get i=h.get i→bW sz (.ptr i q) h'=.ok (.agg (V.ofList ((cs.drop (m*sz)).take sz))) h':=by
 rcases s.is with⟨rfl,_⟩|⟨i,o,c,wr,all,rfl,hi,hg,ha⟩
 ·omega
 ·have hle:m*sz+sz≤n*sz:=by rw [←Nat.succ_mul];exact Nat.mul_le_mul_right sz hm
  refine⟨i,o+m*sz,fun h'=>zl hm,hi,fun h' he f x hf hx=>?_,fun h' he=>?_⟩
  ·refine amM (by rw [he];exact hg) ?_
   rw [←hx,←ha _ (by omega),Nat.add_assoc]
  ·show dQ h' i _=_
   rw [dP (by rw [he];exact hg)]
   have:gB sz (fG (o+m*sz) all)=some ((cs.drop (m*sz)).take sz):=ve (fun f hf=>by
    rw [List.getElem?_take,if_pos hf,List.getElem?_drop,←ha _ (by omega),Nat.add_assoc]) (by rw [List.length_take,List.length_drop,s.len];omega)
   rw [this]
structure Ow (b:Nat) (h:Hp) (el:TypeId) (sz:Nat) (v:V) (n:Nat) (cs:List V):Prop where
 len:cs.length=n*sz
 is:(n=0∧v=.aG)∨∃i,v=.slice i 0 n (.un sz)∧b≤i.nat∧i.nat<h.next.nat∧∃f,h.get i=some (.cells (.rw el f) cs)
theorem Ow.nil(b:Nat)(h:Hp)(el:TypeId)(sz:Nat):Ow b h el sz .aG 0 []:=⟨by simp,.inl ⟨rfl,rfl⟩⟩
theorem Ow.sl{b:Nat}(s:Ow b h el sz v n cs):Sl h.next.nat h sz v n cs:=⟨s.len,by
 rcases s.is with⟨rfl,rfl⟩|⟨i,rfl,_,hi,f1,hg⟩
 ·exact .inl ⟨rfl,.inl rfl⟩
 ·exact .inr ⟨i,0,_,.rw el f1,cs,rfl,hi,by rw [hg];rfl,fun k _=>by rw [Nat.zero_add]⟩⟩
theorem Ow.keep{b:Nat}(s:Ow b h el sz v n cs)(hn:h.next.nat≤h'.next.nat)(hg:∀j,b≤j.nat→j.nat<h.next.nat→h'.get j=h.get j):Ow b h' el sz v n cs:=⟨s.len,by
 rcases s.is with⟨rfl,rfl⟩|⟨i,rfl,hb,hi,f1,hq⟩
 ·exact .inl ⟨rfl,rfl⟩
 ·exact .inr ⟨i,rfl,hb,by omega,f1,by rw [hg i hb hi];exact hq⟩⟩
theorem aeB(l:List V):gB l.length l=some l:=by rw [Hy (Nat.le_refl _)];simp
def aX:V→Option Pos
 | .slice i _ _ _=>some i
 |_=>none
def Sep(v u:V):Prop:=∀i,aX v=some i→aX u≠some i
theorem Sep.symm{u v:V}(h:Sep v u):Sep u v:=fun i a b=>h i b a
theorem sS(z:V)(k:IntKind)(a:Int):bI el [z] 1 [(0,1,.int k a)] h=.ok (.slice h.next 0 1 (.kn 1)) (h.new (.cells (.rw el true) [.int k a])):=(rfl)
theorem au2(z y:V)(j k:IntKind)(a b:Int):bK [z,y] [(0,1,.int j a),(1,1,.int k b)] h=.ok (.agg (.cons (.int j a) (.cons (.int k b) .nil))) h:=(rfl)
theorem jW(z y u w:V):bI el [z,y] 1 [(0,2,.agg (.cons u (.cons w .nil)))] h=.ok (.slice h.next 0 1 (.kn 1)) (h.new (.cells (.rw el true) [u,w])):=(rfl)
theorem Sl.src{b m:Nat}{new:List V}(t:Sl b h sz x m new)(f:Nat→List V→R V):xw sz x h f=f m new:=by
 rcases t.is with⟨rfl,hx⟩|⟨i,o,c,wr,all,rfl,hi,hg,ha⟩
 ·have:new= []:=List.length_eq_zero_iff.1 (by rw [t.len];simp)
  subst this
  rcases hx with rfl|rfl<;>rfl
 ·show dQ h i _=_
  rw [dP hg,ve ha t.len]
theorem vG{n:Nat}(hs:n*bt≤140737488355328)(C:List V)(g f:Hp):pI el sz bt n C g f=.ok (.slice g.next 0 n (.un sz)) (f.new (.cells (.rw el false) C)):=by
 unfold pI
 rw [show Nat.ble (Nat.mul n bt) 140737488355328=true from Nat.ble_eq_true_of_le hs]
theorem Ii{c m:Nat}{new cs0:List V}{p:Pos}{wr:Wr}(t:Sl c h sz x m new)(hm:0<m)(hg:(h.get p).bind Ob.row=some (wr,cs0))(hs:m*bt≤140737488355328):
  bT el sz bt (.slice p 0 0 (.kn 0)) x h=.ok (.slice h.next 0 m (.un sz)) (h.new (.cells (.rw el false) new)):=by
 unfold bT
 rw [t.src]
 cases m with
 |zero=>omega
 |succ m=>
  simp only []
  rw [dP hg]
  simp only [dB,Nat.zero_add,Nat.zero_mul]
  have h0:Nat.ble (m+1) 0=false:=rfl
  have h1:gB 0 (fG 0 cs0)=some []:=by rw [Hy (Nat.zero_le _)];rfl
  rw [h0,h1]
  simp only [List.nil_append,vG hs]
theorem zo{m:Hp→R V}{v:V}{k:Out}{g g':Hp}(hm:m g=.ok v g')(hv:eqV v v=true):chk m v k 1 [g]=k:=by
 show(match m g with| .ok v' _=>(match eqV v v' with|true=>chk m v k 0 []|false=>.bad)| .bad=>.bad)=_
 rw [hm]
 simp only [hv]
 exact akO
theorem aAG(k:IntKind)(a:Int):eqV (.int k a) (.int k a)=true:=by
 show(match Nat.beq (kix k) (kix k) with|true=>oq a a|false=>false)=true
 rw [xI,Ba];simp
theorem acV(z:V)(k:IntKind)(a:Int):fD el [z] 1 [(0,1,.int k a)]=some (.cells (.rw el true) [.int k a],fun p=>.slice p 0 1 (.kn 1)):=(rfl)
theorem Y8(z y z' y' u w u' w':V):bI el [z,y,z',y'] 2 [(0,2,.agg (.cons u (.cons w .nil))),(2,2,.agg (.cons u' (.cons w' .nil)))] h=.ok (.slice h.next 0 2 (.kn 2)) (h.new (.cells (.rw el true) [u,w,u',w'])):=(rfl)
structure MapI (es:List (V×V)) (f:Int→Option V):Prop where
 keys:∀p∈es,∃a,p.1=.int .i64 a
 find:∀a,xK (.int .i64 a) es=some (f a)
end
end Go.Vm

namespace Go.Vm
noncomputable section
variable{h h':Hp}{sz n bt:Nat}{v x:V}{cs:List V}{c:EqC}{el:TypeId}
theorem WJ(a b:List Nat):jX a b=decide (a=b):=by
 induction a generalizing b with
 |nil=>cases b<;>simp [jX]
 |cons x a ih=>
  cases b with
  |nil=>simp [jX]
  |cons y b=>
   simp only [jX]
   by_cases hxy:x=y
   ·subst hxy
    rw [Nat.beq_refl,ih]
    simp
   ·have:Nat.beq x y=false:=by cases hb:Nat.beq x y;rfl;exact absurd (Nat.eq_of_beq_eq_true hb) hxy
    rw [this]
    simp [hxy]
theorem aeY(a b:List Nat):aI .eql c (.str a) (.str b) h=.ok (.bool (decide (a=b))) h:=by
 show fM (jX a b) h=_
 rw [gm,WJ]
theorem aeX(a b:List Nat):aI .neq c (.str a) (.str b) h=.ok (.bool (decide (a≠b))) h:=by
 show fM (not (jX a b)) h=_
 rw [gm,WJ]
 simp
theorem dH{a b:List Nat}(hl:a.length+b.length<4611686018427387904):aI .add c (.str a) (.str b) h=.ok (.str (a++b)) h:=by
 show(match Nat.blt (a.length+b.length) 4611686018427387904 with|true=>R.ok (V.str (a++b)) h|false=>.bad)=_
 rw [show Nat.blt (a.length+b.length) 4611686018427387904=true by rw [Nat.blt_eq];exact hl]
theorem aeU(s:List Nat):aY 1 (.str s) h=.ok (.int .i64 (s.length:Int)) h:=by
 show R.ok (V.int .i64 (.ofNat (aHU s))) h=_
 rw [aAw];rfl
theorem jl{s:List Nat}{m a:Nat}{k:IntKind}(hm:s[m]?=some a):dG (.str s) (.int k (m:Int)) h=.ok (.int .u8 (a:Int)) h:=by
 show(match aHH m s with|some b=>R.ok (V.int .u8 (.ofNat b)) h|none=>.bad)=_
 rw [aAp,hm];rfl
theorem vZ{s:List Nat}{m:Nat}{k:IntKind}(hm:m≤s.length):dZ (.str s) none (some (.int k (m:Int))) h=.ok (.str (s.take m)) h:=by
 show(match Nat.ble m s.length,Nat.ble 0 m with|true,true=>R.ok (V.str (takeN (m - 0) (aa8 0 s))) h|_,_=>.bad)=_
 rw [Nat.ble_eq_true_of_le hm,Nat.ble_eq_true_of_le (Nat.zero_le m),aaD,aa7];rfl
theorem wo{s:List Nat}{m:Nat}{k:IntKind}(hm:m≤s.length):dZ (.str s) (some (.int k (m:Int))) none h=.ok (.str (s.drop m)) h:=by
 show(match Nat.ble s.length s.length,Nat.ble m s.length with|true,true=>R.ok (V.str (takeN (s.length - m) (aa8 m s))) h|_,_=>.bad)=_
 rw [Nat.ble_eq_true_of_le hm,Nat.ble_eq_true_of_le (Nat.le_refl _),aaD,aa7]
 simp only []
 rw [List.take_of_length_le (by simp)]
def bys(s:List Nat):List V:=s.map fun b:Nat=>V.int .u8 (b:Int)
theorem kS(s:List Nat):(bys s).length=s.length:=by simp [bys]
theorem qo(s t:List Nat):bys (s++t)=bys s++bys t:=by simp [bys]
theorem azY(s:List Nat):u8s s=bys s:=by simp [u8s,bys]
theorem SH:∀{s:List Nat},(∀b∈s,b<256)→qO (bys s)=some s
 | [],_=>rfl
 |b::s,hs=>by
  show(match Nat.blt b 256,qO (bys s) with|true,some r=>some (b::r)|_,_=>none)=_
  rw [show Nat.blt b 256=true by rw [Nat.blt_eq];exact hs b (by simp),SH fun b hb=>hs b (by simp [hb])]
theorem auW{s:List Nat}(hl:s.length<4611686018427387904):Gn (.str s) h=.ok (.slice h.next 0 s.length (.un 1)) (h.new (.bytes (bys s))):=by
 show(match Nat.blt s.length 4611686018427387904 with|true=>R.ok (V.slice h.next 0 s.length (.un 1)) (h.new (.bytes (u8s s)))|false=>.bad)=_
 rw [show Nat.blt s.length 4611686018427387904=true by rw [Nat.blt_eq];exact hl,azY]
structure Ch (S:Pos→Prop) (h h':Hp):Prop where
 next:h.next.nat≤h'.next.nat
 get:∀j:Pos,j.nat<h.next.nat→¬S j→h'.get j=h.get j
variable{S S':Pos→Prop}{g:Hp}
theorem Ch.refl(S:Pos→Prop)(h:Hp):Ch S h h:=⟨Nat.le_refl _,fun _ _ _=>rfl⟩
theorem Ch.trans(x:Ch S h g)(y:Ch S' g h')(hs:∀j:Pos,j.nat<h.next.nat→S' j→S j):Ch S h h':=
 ⟨Nat.le_trans x.next y.next,fun j hj hn=>(y.get j (Nat.lt_of_lt_of_le hj x.next) fun q=>hn (hs j hj q)).trans (x.get j hj hn)⟩
theorem Ch.mono(x:Ch S h h')(hs:∀j:Pos,j.nat<h.next.nat→S j→S' j):Ch S' h h':=⟨x.next,fun j hj hn=>x.get j hj fun q=>hn (hs j hj q)⟩
theorem Ch.new(S:Pos→Prop)(h:Hp)(o:Ob):Ch S h (h.new o):=⟨by rw [aZ];omega,fun j hj _=>new_ne h (by omega) o⟩
theorem Ch.put(h:Hp){i:Pos}(o:Option Ob)(hi:S i):Ch S h (h.put i o):=⟨Nat.le_refl _,fun j hj hn=>Oi h (fun e=>hn (by rw [show j=i from Pos.wu e];exact hi)) o⟩
theorem Ch.aH(S:Pos→Prop)(n:Nat)(h:Hp):Ch S h (aH n h):=⟨by rw [qp];omega,fun _ _ _=>rfl⟩
theorem Sl.dN{b:Nat}(s:Sl b h sz v n cs){i:Pos}(hi:aX v=some i):i.nat<b:=by
 rcases s.is with⟨_,rfl|rfl⟩|⟨i',o,cp,wr,all,rfl,hi',_⟩
 ·cases hi
 ·cases hi
 ·cases hi;exact hi'
theorem Sl.ch{b:Nat}(s:Sl b h sz v n cs)(x:Ch S h h')(hb:b≤h.next.nat)(hs:∀i,aX v=some i→¬S i):Sl b h' sz v n cs:=⟨s.len,by
 rcases s.is with h0|⟨i,o,cp,wr,all,rfl,hi,hg,ha⟩
 ·exact .inl h0
 ·exact .inr ⟨i,o,cp,wr,all,rfl,hi,by rw [x.get i (by omega) (hs i rfl)];exact hg,ha⟩⟩
theorem Ow.dN{b:Nat}(s:Ow b h el sz v n cs){i:Pos}(hi:aX v=some i):b≤i.nat∧i.nat<h.next.nat:=by
 rcases s.is with⟨_,rfl⟩|⟨i',rfl,hb,hi',_,_⟩
 ·cases hi
 ·cases hi;exact⟨hb,hi'⟩
theorem Ow.ch{b:Nat}(s:Ow b h el sz v n cs)(x:Ch S h h')(hs:∀i,aX v=some i→¬S i):Ow b h' el sz v n cs:=⟨s.len,by
 rcases s.is with h0|⟨i,rfl,hb,hi,f1,hg⟩
 ·exact .inl h0
 ·exact .inr ⟨i,rfl,hb,Nat.lt_of_lt_of_le hi x.next,f1,by rw [x.get i hi (hs i rfl)];exact hg⟩⟩
theorem Ow.cell{b:Nat}(s:Ow b h el sz v n cs):v.cells= [v]∧gu v=true:=by
 rcases s.is with⟨_,rfl⟩|⟨i,rfl,_⟩<;>exact⟨rfl,rfl⟩
theorem Sl.cell{b:Nat}(s:Sl b h sz v n cs):v.cells= [v]∧gu v=true:=by
 rcases s.is with⟨_,rfl|rfl⟩|⟨i,o,cp,wr,all,rfl,_⟩<;>exact⟨rfl,rfl⟩
theorem anu{b m:Nat}{new:List V}(s:Ow 0 h el sz v n cs)(t:Sl b h sz x m new)(hm:0<m)(hs:(n+m)*bt≤140737488355328):
  ∃v' h',bT el sz bt v x h=.ok v' h'∧v'=.slice h.next 0 (n+m) (.un sz)∧h'.next=h.next.succ∧Ow 0 h' el sz v' (n+m) (cs++new)∧Ch (fun j=>aX v=some j) h h':=by
 have hl:(cs++new).length=(n+m)*sz:=by rw [List.length_append,s.len,t.len,Nat.add_mul]
 unfold bT
 rw [t.src]
 cases m with
 |zero=>omega
 |succ m=>
  simp only []
  rcases s.is with⟨rfl,rfl⟩|⟨i,rfl,-,hi,f1,hg⟩
  ·have hc:cs= []:=List.length_eq_zero_iff.1 (by rw [s.len];simp)
   subst hc
   simp only []
   rw [vG (by rw [Nat.zero_add] at hs;exact hs)]
   refine⟨_,_,rfl,by rw [Nat.zero_add],rfl,⟨hl,.inr ⟨h.next,by rw [Nat.zero_add],Nat.zero_le _,by rw [aZ];omega,false,dD _ _⟩⟩,Ch.new _ _ _⟩
  ·simp only []
   rw [dP (wr:=.rw el f1) (all:=cs) (by rw [hg];rfl)]
   have h1:gB (n*sz) (fG 0 cs)=some cs:=by rw [jT,List.drop_zero,←s.len,aeB]
   have h2:fG (n*sz) (fG 0 cs)= []:=by rw [jT,jT,List.drop_zero,←s.len,List.drop_length]
   simp only [dB,h1,h2,Nat.beq_refl,vG hs]
   refine⟨_,_,rfl,rfl,rfl,⟨hl,.inr ⟨h.next,rfl,Nat.zero_le _,by rw [aZ,jr];omega,false,dD (h.put i none) _⟩⟩,(Ch.put (S:=fun j=>aX (.slice i 0 n (.un sz))=some j) h none rfl).trans (Ch.new (fun _=>False) _ _) fun _ _ q=>q.elim⟩
theorem zq{new:List V}(s:Ow 0 h el sz v n cs)(hnew:new.length=sz)(hs:(n+1)*bt≤140737488355328):
  ∃v' h',bT el sz bt v (.slice h.next 0 1 (.kn 1)) (h.new (.cells (.rw el true) new))=.ok v' h'∧v'=.slice h.next.succ 0 (n+1) (.un sz)∧Ow 0 h' el sz v' (n+1) (cs++new)∧Ch (fun j=>aX v=some j) h h'∧h'.next.nat=h.next.nat+2:=by
 have c1:=Ch.new (fun j=>aX v=some j) h (.cells (.rw el true) new)
 have s1:Ow 0 (h.new (.cells (.rw el true) new)) el sz v n cs:=s.ch (Ch.new (fun _=>False) h _) fun _ _ q=>q
 have t1:Sl (h.next.nat+1) (h.new (.cells (.rw el true) new)) sz (.slice h.next 0 1 (.kn 1)) 1 new:=⟨by rw [hnew];simp,.inr ⟨h.next,0,_,.rw el true,new,rfl,by omega,by rw [dD];rfl,fun k _=>by rw [Nat.zero_add]⟩⟩
 obtain⟨v',h',e,e2,e3,o,c2⟩:=anu (bt:=bt) s1 t1 (by omega) hs
 exact⟨v',h',e,e2,o,c1.trans c2 fun _ _ q=>q,by rw [e3,aHI,Pos.eY,Pos.eY]⟩
theorem acQ(i:Pos)(q:Nat):aK (.ptr i q) h=.ok (.ptr i q) h:=(rfl)
theorem auC(h:Hp)(o:Ob):Hp.put (aH 1 h) h.next (some o)=h.new o:=(rfl)
theorem gy{i:Pos}{wr:Wr}{l:List V}(hg:h.get i=some (.cells wr l))(q:Nat):aF (.ptr i q) h=(match l[q]? with|some v=>R.ok v h|none=>.bad):=by
 show dQ h i (fun _ cs=>match AZ q cs with|some v=>R.ok v h|none=>.bad)=_
 rw [dP (wr:=wr) (all:=l) (by rw [hg];rfl),nK]
theorem Ut{y:V}:∀{q:Nat} {l:List V},q<l.length→jk q [y] l=some (l.set q y)
 |0,[],h=>absurd h (by simp)
 |0,a::t,_=>rfl
 |q+1,[],h=>absurd h (by simp)
 |q+1,a::t,h=>by
  show Option.casesOn (motive:=fun _=>Option (List V)) (jk q [y] t) none (fun r=>some (a::r))=_
  rw [Ut (q:=q) (l:=t) (by simpa using h)]
  rfl
theorem qm{i:Pos}{t:TypeId}{f:Bool}{l:List V}(hg:h.get i=some (.cells (.rw t f) l)){sz q:Nat}{y:V}(hn:gu y=true)(hl:Nat.beq y.cells.length sz=true):
  aO sz (.ptr i q) y h=(match jk q y.cells l with|some cs'=>.ok V.undef (h.put i (some (.cells (.rw t f) cs')))|none=>.bad):=by
 unfold aO
 show dQ h i _=_
 rw [dP (wr:=.rw t f) (all:=l) (by rw [hg];rfl),hn,hl]
 rfl
theorem jO{i:Pos}{t:TypeId}{f:Bool}{l:List V}(hg:h.get i=some (.cells (.rw t f) l)){q:Nat}{y:V}(hy:y.cells= [y]∧gu y=true)(hq:q<l.length):aO 1 (.ptr i q) y h=.ok V.undef (h.put i (some (.cells (.rw t f) (l.set q y)))):=by
 rw [qm hg hy.2 (by rw [hy.1];rfl),hy.1]
 rw [Ut hq]
end
end Go.Vm

namespace Go.Vm
noncomputable section
variable{h h':Hp}{sz n b:Nat}{v:V}{cs:List V}
def jM(sz:Nat)(v:V):Prop:=∀i o n c,v=.slice i o n c→(match c with| .kn k=>n≤k| .un u=>u=sz)
theorem aHJ{sz o l m k:Nat}(hl:l≤k)(hk:k≤m):moved sz o l m=o+l*sz∨(moved sz o l m=o∧k=l):=by
 unfold moved
 cases hb:Nat.beq m l with
 |true=>exact .inr ⟨rfl,by have:=Nat.eq_of_beq_eq_true hb;omega⟩
 |false=>exact .inl rfl
theorem Sl.cut(s:Sl b h sz v n cs)(hc:jM sz v)(hsz:0<sz){lo hi:Nat}(h1:lo≤hi)(h2:hi≤n)(h3:v≠ .aG∧v≠ .emp):
  ∃v',(∀h',amB sz v (some (.int .i64 (lo:Int))) (some (.int .i64 (hi:Int))) none h'=.ok v' h')∧Sl b h sz v' (hi - lo) ((cs.drop (lo*sz)).take ((hi - lo)*sz))∧jM sz v'∧∀i,aX v'=some i→aX v=some i:=by
 have hl:=s.len
 have hlen:((cs.drop (lo*sz)).take ((hi - lo)*sz)).length=(hi - lo)*sz:=by
  rw [List.length_take,List.length_drop,hl,←Nat.sub_mul]
  exact Nat.min_eq_left (Nat.mul_le_mul_right _ (by omega))
 have hget:∀(all:List V) (o:Nat),(∀k,k<n*sz→all[o+k]?=cs[k]?)→∀k,k<(hi - lo)*sz→all[o+lo*sz+k]?=((cs.drop (lo*sz)).take ((hi - lo)*sz))[k]?:=fun all o ha k hk=>by
  rw [List.getElem?_take,if_pos hk,List.getElem?_drop,Nat.add_assoc]
  apply ha
  have:lo*sz+(hi - lo)*sz≤n*sz:=by rw [←Nat.add_mul];exact Nat.mul_le_mul_right _ (by omega)
  omega
 rcases s.is with⟨_,h0|h0⟩|⟨i,o,c,wr,all,rfl,hi',hg,ha⟩
 ·exact absurd h0 h3.1
 ·exact absurd h0 h3.2
 ·have hcap:=hc i o n c rfl
  cases c with
  |kn k=>
   have hk:n≤k:=hcap
   have e1:Nat.ble k k=true:=Nat.ble_eq_true_of_le (Nat.le_refl _)
   have e2:Nat.ble hi k=true:=Nat.ble_eq_true_of_le (by omega)
   have e3:Nat.ble lo hi=true:=Nat.ble_eq_true_of_le h1
   refine⟨.slice i (moved sz o lo k) (hi - lo) (.kn (k - lo)),fun h'=>?_,⟨hlen,?_⟩,fun i' o' n' c' e=>by cases e;show hi - lo≤k - lo;omega,fun j hj=>hj⟩
   ·show(match Nat.ble k k,Nat.ble hi k,Nat.ble lo hi with
     |true,true,true=>eu (moved sz o lo k) fun q=>eu (hi - lo) fun n=>R.ok (V.slice i q n (.kn (k - lo))) h'
     |_,_,_=>.bad)=_
    rw [e1,e2,e3]
    simp only [dB]
   ·refine .inr ⟨i,_,_,wr,all,rfl,hi',hg,fun q hq=>?_⟩
    rcases aHJ (sz:=sz) (o:=o) (m:=k) h1 (by omega) with e|⟨_,e⟩
    ·rw [e];exact hget all o ha q hq
    ·rw [e,Nat.sub_self,Nat.zero_mul] at hq;omega
  |un u=>
   have hu:u=sz:=hcap
   subst hu
   have e2:Nat.ble hi n=true:=Nat.ble_eq_true_of_le h2
   have e3:Nat.ble lo hi=true:=Nat.ble_eq_true_of_le h1
   cases lo with
   |zero=>
    refine⟨.slice i o hi (.un u),fun h'=>?_,⟨hlen,.inr ⟨i,o,.un u,wr,all,rfl,hi',hg,fun q hq=>?_⟩⟩,fun i' o' n' c' e=>(by cases e;rfl),fun j hj=>hj⟩
    ·show(match Nat.ble hi n,Nat.ble 0 hi,Nat.beq u u with
      |true,true,true=>R.ok (V.slice i o hi (.un u)) h'
      |_,_,_=>R.bad)=_
     rw [e2,e3,Nat.beq_refl]
    ·have:=hget all o ha q hq
     rw [show o+0*u+q=o+q by omega] at this
     exact this
   |succ l=>
    have es:∀h',amB u (.slice i o n (.un u)) (some (.int .i64 ((l+1:Nat):Int))) (some (.int .i64 (hi:Int))) none h'=(match Nat.blt (l+1) n with
      |true=>eu (o+(l+1)*u) fun q=>eu (hi - (l+1)) fun n=>R.ok (V.slice i q n (.un u)) h'
      |false=>.ok .emp h'):=fun h'=>by
     show(match Nat.ble hi n,Nat.ble (l+1) hi,Nat.beq u u with
      |true,true,true=>(match Nat.blt (l+1) n with
       |true=>eu (o+(l+1)*u) fun q=>eu (hi - (l+1)) fun n=>R.ok (V.slice i q n (.un u)) h'
       |false=>.ok .emp h')
      |_,_,_=>R.bad)=_
     rw [e2,e3,Nat.beq_refl]
    by_cases hlt:l+1<n
    ·have e4:Nat.blt (l+1) n=true:=by rw [Nat.blt_eq];exact hlt
     refine⟨.slice i (o+(l+1)*u) (hi - (l+1)) (.un u),fun h'=>by rw [es];simp only [e4,dB],⟨hlen,.inr ⟨i,_,_,wr,all,rfl,hi',hg,fun q hq=>hget all o ha q hq⟩⟩,fun i' o' n' c' e=>(by cases e;rfl),fun j hj=>hj⟩
    ·have e4:Nat.blt (l+1) n=false:=by
      cases hb:Nat.blt (l+1) n with
      |false=>rfl
      |true=>rw [Nat.blt_eq] at hb;omega
     have hz:hi - (l+1)=0:=by omega
     exact⟨.emp,fun h'=>by rw [es];simp only [e4],⟨hlen,.inl ⟨hz,.inr rfl⟩⟩,fun i' o' n' c' e=>(by cases e),fun j hj=>(by cases hj)⟩
end
end Go.Vm
namespace Go.Vm
noncomputable section
variable{h h':Hp}{sz n b:Nat}{v:V}{cs:List V}
theorem Sl.from(s:Sl b h sz v n cs)(hc:jM sz v)(hsz:0<sz){lo:Nat}(h1:lo≤n):
  ∃v',(∀h',eX sz v (some (.int .i64 (lo:Int))) none none h'=.ok v' h')∧Sl b h sz v' (n - lo) (cs.drop (lo*sz))∧jM sz v'∧∀i,aX v'=some i→aX v=some i:=by
 by_cases h3:v=.aG∨v=.emp
 ·have hn:n=0:=by
   rcases s.is with⟨h0,_⟩|⟨i,o,c,wr,all,e,_⟩
   ·exact h0
   ·rcases h3 with h3|h3<;>rw [h3] at e<;>cases e
  subst hn
  have hlo:lo=0:=by omega
  subst hlo
  have hcs:cs= []:=List.length_eq_zero_iff.1 (by rw [s.len];simp)
  subst hcs
  exact⟨v,fun h'=>by rcases h3 with rfl|rfl<;>rfl,by simpa using s,hc,fun _ hi=>hi⟩
 ·obtain⟨v',e1,e2,e3,e4⟩:=s.cut hc hsz (hi:=n) h1 (Nat.le_refl _) ⟨fun q=>h3 (.inl q),fun q=>h3 (.inr q)⟩
  refine⟨v',fun h'=>?_,?_,e3,e4⟩
  ·rw [←e1 h']
   rcases s.is with⟨_,h0⟩|⟨i,o,c,wr,all,rfl,_⟩
   ·exact absurd h0 h3
   ·rfl
  ·have hl:(cs.drop (lo*sz)).length≤(n - lo)*sz:=by rw [List.length_drop,s.len,←Nat.sub_mul];exact Nat.le_refl _
   rw [List.take_of_length_le hl] at e2
   exact e2
end
end Go.Vm
