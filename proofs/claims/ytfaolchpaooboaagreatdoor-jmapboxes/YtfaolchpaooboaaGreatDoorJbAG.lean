/- Part of the claim: facts that its last text uses. No conditions. -/
import Derived.Test.YtfaolchpaooboaaGreatDoorJbAF
set_option linter.all false
namespace Go.Vm
noncomputable section
variable{P:Program}{G N:Nat}{M:Mp}{h h':Hp}{w:World}{keep:Nat→Bool}{e e2:FuncId→Option Fun}{r:V}
def iQ(P:Program)(G:Nat)(f:FuncId)(F:Fun):Prop:=
 ∀(args:List V) (h:Hp) (r:V) (h':Hp) (M:Mp) (w:World) (cargs:List Value),F args h=.ok r h'→Rel G M h w→aX M args cargs→
  (callFunc f cargs.toArray).run P w=.ok (.enter f cargs.toArray) w∧
  CallsD P f cargs.toArray .returning w fun e u w'=>u=.returning∧∃c,e=.returned c∧Post G M h w r h' c w'
def DR(P:Program)(G:Nat)(f:FuncId)(F:Fun):Prop:=
 ∃fn c,P.funcs[f]?=some fn∧fn.body=some c∧(∀args w,(callFunc f args).run P w=.ok (.enter f args) w)∧
 ∀(args:List V) (h:Hp) (r:V) (h':Hp) (M:Mp) (w:World) (cargs:List Value),F args h=.ok r h'→Rel G M h w→aX M args cargs→
  c.wp P (bodyPost P fn fun e w'=>∃c,e=.returned c∧Post G M h w r h' c w') {tmps:=cargs.toArray++Array.replicate (fn.ntmps - cargs.toArray.size) undef,defers:= []} w
theorem DR.deferred{f:FuncId}{F:Fun}(hb:DR P G f F):iQ P G f F:=by
 obtain⟨fn,c,h1,h2,h3,h4⟩:=hb
 intro args h r h' M w cargs e hr ha
 exact⟨h3 _ _,callsD_of_wp h1 h2 (h4 args h r h' M w cargs e hr ha)⟩
theorem oL{f:FuncId}{fn:Func}{c:Code}(hf:P.funcs[f]?=some fn)(hn:(fn.name== "runtime.NumGoroutine")=false)(hb:fn.body=some c)(args:Array Value)(w:World):
  (callFunc f args).run P w=.ok (.enter f args) w:=by
 unfold callFunc
 rw [Sem.run_bind,run_program];have hn':¬fn.name= "runtime.NumGoroutine" :=by simpa using hn
 simp [hf,hn',hb]
theorem X8{fn:Func}{args:List V}{cargs:List Value}(hr:Rel G M h w)(ha:aX M args cargs)(hle:args.length≤fn.ntmps):
  At keep G fn.ntmps [] M (kR keep 0 args .nil) h {tmps:=cargs.toArray++Array.replicate (fn.ntmps - cargs.toArray.size) undef,defers:= []} w:=by
 have hlen:=ha.length
 refine⟨hr,sW keep _ args 0 _ (fun j v hj=>?_) (fun t v hv=>by rw [T.get_nil] at hv;cases hv),by simp;omega,rfl⟩
 obtain⟨x,hx,hrx⟩:=ha.get hj
 have hj':j<cargs.length:=by
  rcases Nat.lt_or_ge j cargs.length with h1|h1
  ·exact h1
  ·rw [List.getElem?_eq_none h1] at hx;cases hx
 have:(cargs.toArray++Array.replicate (fn.ntmps - cargs.toArray.size) undef).getD (0+j) undef=x:=by
  rw [Array.getD_eq_getD_getElem?,Array.getElem?_append_left (by simpa using hj')]
  simp [hx]
 simp only [this]
 exact hrx
theorem ayU{f:FuncId}{fn:Func}{c:Code}{D:F→Hp→Out}(hf:P.funcs[f]?=some fn)(hn:(fn.name== "runtime.NumGoroutine")=false)(hb:fn.body=some c)(hD:bG P keep G fn.ntmps c D):
  DR P G f (qw P keep fn.ntmps fn.results.toList D):=by
 refine⟨fn,c,hf,hb,oL hf hn hb,?_⟩
 intro args h r h' M w cargs e hr hargs
 unfold qw at e
 split at e
 ·rename_i hle
  have hat:=X8 (keep:=keep) (fn:=fn) hr hargs (Nat.le_of_ble_eq_true hle)
  cases e1:D (kR keep 0 args .nil) h with
  |bad=>rw [e1] at e;cases e
  |ex i fr2 h2=>rw [e1] at e;cases e
  |nor fr2 h2=>
   rw [e1] at e
   refine wp_mono (hD.wp _ _ _ _ _ _ (by rw [e1];simp) hat) ?_
   intro x a' w' q
   rw [e1] at q
   cases x<;>simp only [eP] at q
   obtain⟨M',at',hx⟩:=q
   obtain⟨rfl,v,hv,hrv⟩:=lN at'.rel at'.fr e
   exact⟨at'.plain,v,hv,v,rfl,M',hrv,at'.rel,hx⟩
  |ret fr2 h2=>
   rw [e1] at e
   refine wp_mono (hD.wp _ _ _ _ _ _ (by rw [e1];simp) hat) ?_
   intro x a' w' q
   rw [e1] at q
   cases x<;>simp only [eP] at q
   obtain⟨M',at',hx⟩:=q
   obtain⟨rfl,v,hv,hrv⟩:=lN at'.rel at'.fr e
   exact⟨at'.plain,v,hv,v,rfl,M',hrv,at'.rel,hx⟩
 ·cases e
theorem F6(hm:P.follows .mixedOrders=true){f:FuncId}{fn:Func}{pl:aJ}{lf:Nat}(hE:∀f F,e f=some F→aj P G f F)(hf:P.funcs[f]?=some fn)(ho:wW G fn=true):DR P G f (gI P G keep e pl lf fn):=by
 unfold wW at ho
 simp only [Bool.and_eq_true,Bool.not_eq_true'] at ho
 unfold gI
 cases hb:fn.body with
 |none=>rw [hb] at ho;cases ho.1
 |some c=>
  rw [hb] at ho
  exact ayU hf ho.2 hb (eH hm hE pl lf c ho.1)
def kJ(G N:Nat):Code→Bool
 | .region id ops d=>(match defers (.region id ops d) with
  |true=>(match d with|false=>ops.toList.dropLast.all (iM G N)|true=>false)
  |false=>codeOk G N (.region id ops d))
 | .seq a b=>(match defers (.seq a b) with|true=>kJ G N a&&kJ G N b|false=>codeOk G N (.seq a b))
 | .cond c a b=>(match defers (.cond c a b) with|true=>kJ G N a&&kJ G N b|false=>codeOk G N (.cond c a b))
 |c=>codeOk G N c
theorem qX(hm:P.follows .mixedOrders=true)(hE:∀f F,e f=some F→aj P G f F)(pl:aJ)(lf:Nat):(c:Code)→kJ G N c=true→dW P keep G N c (tV P G N keep e pl lf c)
 | .region id ops d,hc=>by
  unfold kJ at hc
  unfold tV
  split at hc
  ·rename_i hd
   rw [hd]
   split at hc
   ·refine dW.region hE fun i o ho hi=>?_
    have hm:o∈ops.toList.dropLast:=by
     rw [List.dropLast_eq_take,List.mem_take_iff_getElem]
     have hlt:i<ops.size:=by omega
     refine⟨i,by simp;omega,?_⟩
     rw [Array.getElem?_eq_getElem hlt] at ho
     simpa using ho
    exact List.all_eq_true.1 hc o hm
   ·cases hc
  ·rename_i hd
   rw [hd]
   exact dW.lift (eH hm hE pl lf _ hc)
 | .seq a b,hc=>by
  unfold kJ at hc
  unfold tV
  split at hc
  ·rename_i hd
   rw [hd]
   simp only [Bool.and_eq_true] at hc
   exact .seq (qX hm hE pl lf a hc.1) (qX hm hE pl lf b hc.2)
  ·rename_i hd
   rw [hd]
   exact dW.lift (eH hm hE pl lf _ hc)
 | .cond c a b,hc=>by
  unfold kJ at hc
  unfold tV
  split at hc
  ·rename_i hd
   rw [hd]
   simp only [Bool.and_eq_true] at hc
   exact .cond (qX hm hE pl lf a hc.1) (qX hm hE pl lf b hc.2)
  ·rename_i hd
   rw [hd]
   exact dW.lift (eH hm hE pl lf _ hc)
 | .skip,hc=>dW.lift (eH hm hE pl lf _ hc)
 | .label _,hc=>dW.lift (eH hm hE pl lf _ hc)
 | .block _ _,hc=>dW.lift (eH hm hE pl lf _ hc)
 | .loop _,hc=>dW.lift (eH hm hE pl lf _ hc)
 | .exit _,hc=>dW.lift (eH hm hE pl lf _ hc)
 | .ret,hc=>dW.lift (eH hm hE pl lf _ hc)
 | .scope _,hc=>dW.lift (eH hm hE pl lf _ hc)
 | .goto _,hc=>dW.lift (eH hm hE pl lf _ hc)
 | .rangeFunc ..,hc=>dW.lift (eH hm hE pl lf _ hc)
 | .refuse _,hc=>dW.lift (eH hm hE pl lf _ hc)
def oW(e2:FuncId→Option Fun):DS→Hp→Option Hp
 | [],h=>some h
 |d::ds,h=>(match e2 d.1 with
  |some F=>(match F (d.2.1++d.2.2) h with| .ok _ h'=>oW e2 ds h'| .bad=>none)
  |none=>none)
def outT(e2:FuncId→Option Fun):OutD→Out
 | .nor fr h ds=>(match oW e2 ds h with|some h'=>.nor fr h'|none=>.bad)
 | .ret fr h ds=>(match oW e2 ds h with|some h'=>.nor fr h'|none=>.bad)
 | .bad=>.bad
def H7(P:Program)(G:Nat)(keep:Nat→Bool)(e e2:FuncId→Option Fun)(pl:aJ)(lf:Nat)(fn:Func):Fun:=match fn.body with
 |some c=>qw P keep fn.ntmps fn.results.toList (fun fr h=>outT e2 (tV P G fn.ntmps keep e pl lf c fr h []))
 |none=>fun _ _=>.bad
theorem FX(hE2:∀f F,e2 f=some F→iQ P G f F){fn:Func}{tmps:Array Value}{R:Ending→World→Prop}:∀{ds:DS} {Df:List Deferred} {h h':Hp} {M:Mp} {w:World},ni M ds Df→Rel G M h w→oW e2 ds h=some h'→
  (∀M' w',Rel G M' h' w'→Ext M h w M' h' w'→∃v,(results fn tmps).run P w'=.ok v w'∧R (.returned v) w')→Leaves P fn tmps R Df .returning w
 | [],Df,h,h',M,w,hd,hr,e0,hK=>by
  cases hd
  cases e0
  exact hK M w hr (.refl hr)
 |d::ds,Df,h,h',M,w,hd,hr,e0,hK=>by
  obtain⟨dd,Ds,⟨xs,ys,hx,hy,rfl⟩,hds,rfl⟩:=hd
  simp only [oW] at e0
  split at e0
  ·rename_i F hF
   split at e0
   ·rename_i r1 h1 hcall
    obtain⟨hrun,hc⟩:=hE2 _ F hF _ _ _ _ M w (xs++ys) hcall hr (hx.append hy)
    refine leaves_cons (by simp) (by simpa [invoke] using hrun) ?_
    have ea:xs.toArray++ys.toArray=(xs++ys).toArray:=by simp
    refine(CallsD.mono hc ?_)
    rintro ee u' w' ⟨rfl,c,rfl,M',_,hr',hx'⟩
    exact FX hE2 (hds.mono hx'.le) hr' e0 fun M2 w2 hr2 hx2=>hK M2 w2 hr2 (hx'.trans hx2)
   ·cases e0
  ·cases e0
theorem ajy(hE2:∀f F,e2 f=some F→iQ P G f F){fn:Func}{fr2:F}{h2:Hp}{ds:DS}{Df:List Deferred}{M':Mp}{a':Act}{w':World}
  (e:bD P fn.results.toList (match oW e2 ds h2 with|some h'=>.nor fr2 h'|none=>.bad)=.ok r h') (hds:ni M' ds Df) (at_:At keep G N Df M' fr2 h2 a' w') (hx:Ext M h w M' h2 w'):
  Leaves P fn a'.tmps (fun e w'=>∃c,e=.returned c∧Post G M h w r h' c w') a'.defers .returning w':=by
 rw [show a'.defers=Df from at_.plain]
 cases e1:oW e2 ds h2 with
 |none=>rw [e1] at e;cases e
 |some h3=>
  rw [e1] at e
  refine FX hE2 hds at_.rel e1 fun M2 w2 hr2 hx2=>?_
  have hf2:lW keep M2 fr2 a':=at_.fr.mono hx2.le
  obtain⟨rfl,v,hv,hrv⟩:=lN hr2 hf2 e
  exact⟨v,hv,v,rfl,M2,hrv,hr2,hx.trans hx2⟩
theorem asW(hE2:∀f F,e2 f=some F→iQ P G f F){f:FuncId}{fn:Func}{c:Code}{T:F→Hp→DS→OutD}(hf:P.funcs[f]?=some fn)(hn:(fn.name== "runtime.NumGoroutine")=false)(hb:fn.body=some c)(hT:dW P keep G fn.ntmps c T):
  aj P G f (qw P keep fn.ntmps fn.results.toList fun fr h=>outT e2 (T fr h [])):=by
 intro args h r h' M w cargs e hr hargs
 rw [oL hf hn hb]
 simp only [Opq]
 unfold qw at e
 split at e
 ·rename_i hle
  have e:bD P fn.results.toList (outT e2 (T (kR keep 0 args .nil) h []))=.ok r h':=e
  have hat:=X8 (keep:=keep) (fn:=fn) hr hargs (Nat.le_of_ble_eq_true hle)
  refine calls_of_wp_defers hf hb ?_
  refine wp_mono (hT [] [] _ _ _ _ _ ?_ rfl hat) ?_
  ·intro e1
   rw [e1] at e
   cases e
  ·intro x a' w' q
   cases e1:T (kR keep 0 args .nil) h [] with
   |bad=>rw [e1] at q;cases x<;>exact q.elim
   |nor fr2 h2 ds=>
    rw [e1] at e q
    cases x<;>simp only [ng] at q
    obtain⟨M',Df,hds,at',hx⟩:=q
    exact ajy hE2 e hds at' hx
   |ret fr2 h2 ds=>
    rw [e1] at e q
    cases x<;>simp only [ng] at q
    obtain⟨M',Df,hds,at',hx⟩:=q
    exact ajy hE2 e hds at' hx
 ·cases e
theorem KC(hm:P.follows .mixedOrders=true){f:FuncId}{fn:Func}{pl:aJ}{lf:Nat}(hE:∀f F,e f=some F→aj P G f F)(hE2:∀f F,e2 f=some F→iQ P G f F)(hf:P.funcs[f]?=some fn)(ho:((match fn.body with|some c=>kJ G fn.ntmps c|none=>false)&&!(fn.name== "runtime.NumGoroutine"))=true):aj P G f (H7 P G keep e e2 pl lf fn):=by
 simp only [Bool.and_eq_true,Bool.not_eq_true'] at ho
 unfold H7
 cases hb:fn.body with
 |none=>rw [hb] at ho;cases ho.1
 |some c=>
  rw [hb] at ho
  exact asW hE2 hf ho.2 hb (qX hm hE pl lf c ho.1)
end
end Go.Vm
