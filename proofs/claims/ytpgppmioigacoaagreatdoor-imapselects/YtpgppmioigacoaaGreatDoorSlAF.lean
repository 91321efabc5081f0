/- Part of the value machine, or of a walk by it: lemmas that the claim's last text uses. No conditions. -/
import Derived.Test.YtpgppmioigacoaaGreatDoorSlAE
set_option linter.unusedVariables false
set_option linter.unusedSimpArgs false
set_option linter.unnecessarySimpa false
namespace Go.Vm
noncomputable section
variable{P:Program}{G:Nat}{M:Mp}{h h':Hp}{w:World}{keep:Nat→Bool}{N:Nat}{Df:List Deferred}{e:FuncId→Option Fun}
theorem eF.seq{c d:Code}{D E:F→Hp→Out}(hc:eF P keep G N c D)(hd:eF P keep G N d E):eF P keep G N (.seq c d) (aB D E):=by
 intro ro n Df fr h M a w hne at_
 refine wpIn_seq ?_
 unfold aB at hne⊢
 cases e1:D fr h with
 |bad=>rw [e1] at hne;exact absurd rfl hne
 |nor fr1 h1=>
  rw [e1] at hne
  refine wpIn_mono (hc _ _ _ fr h M a w (by rw [e1];simp) at_) ?_
  intro x a' w' q
  rw [e1] at q
  cases x<;>simp only [jf] at q
  obtain⟨M',at',hx⟩:=q
  exact wpIn_mono (hd _ _ _ fr1 h1 M' a' w' hne at') fun x a w q=>jf.trans hx q
 |ret fr1 h1=>
  refine wpIn_mono (hc _ _ _ fr h M a w (by rw [e1];simp) at_) ?_
  intro x a' w' q
  rw [e1] at q
  cases x<;>simp only [jf] at q
  exact q
 |ex i fr1 h1=>
  refine wpIn_mono (hc _ _ _ fr h M a w (by rw [e1];simp) at_) ?_
  intro x a' w' q
  rw [e1] at q
  cases x<;>simp only [jf] at q
  exact q
theorem eF.cond{x:Operand}{c d:Code}{D E:F→Hp→Out}(hg:∀g,x=.global g→g<G)(hc:eF P keep G N c D)(hd:eF P keep G N d E):eF P keep G N (.cond x c d) (aqf x D E):=by
 intro ro n Df fr h M a w hne at_
 obtain⟨v,env,e1,hv,-⟩:=ahE hne at_ hg (lJ.nil M a) (rfl:aqf x D E fr h=_)
 rw [←e1] at hne⊢
 cases v<;>simp only [ne_eq,not_true_eq_false] at hne⊢
 rename_i t
 have ht:=hv.bool
 cases t
 ·exact wpIn_cond_false ht (hd _ _ _ fr h M a w hne at_)
 ·exact wpIn_cond_true ht (hc _ _ _ fr h M a w hne at_)
theorem eF.block{id:Nat}{c:Code}{D:F→Hp→Out}(hc:eF P keep G N c D):eF P keep G N (.block id c) (bP id D):=by
 intro ro n Df fr h M a w hne at_
 refine wpIn_block ?_
 unfold bP at hne⊢
 cases e1:D fr h with
 |bad=>rw [e1] at hne;exact absurd rfl hne
 |nor fr1 h1=>
  refine wpIn_mono (hc _ _ _ fr h M a w (by rw [e1];simp) at_) ?_
  intro x a' w' q
  rw [e1] at q
  cases x<;>simp only [jf] at q
  exact q
 |ret fr1 h1=>
  refine wpIn_mono (hc _ _ _ fr h M a w (by rw [e1];simp) at_) ?_
  intro x a' w' q
  rw [e1] at q
  cases x<;>simp only [jf] at q
  exact q
 |ex i fr1 h1=>
  refine wpIn_mono (hc _ _ _ fr h M a w (by rw [e1];simp) at_) ?_
  intro x a' w' q
  rw [e1] at q
  cases x<;>simp only [jf] at q
  obtain⟨rfl,q⟩:=q
  simp only [Exit.inBlock]
  cases hb:Nat.beq _ id with
  |true=>rw [if_pos (Nat.eq_of_beq_eq_true hb)];exact q
  |false=>rw [if_neg (Nat.ne_of_beq_eq_false hb)];exact⟨rfl,q⟩
theorem aC6(b:F→Hp→Out)(fr:F)(h:Hp):dI b 0 fr h=.bad:=rfl
theorem amX(b:F→Hp→Out)(n:Nat)(fr:F)(h:Hp):dI b (n+1) fr h=(match b fr h with
  | .nor fr h=>dI b n fr h
  | .ret fr h=>.ret fr h
  | .ex i fr h=>.ex i fr h
  | .bad=>.bad):=rfl
theorem eF.loop{c:Code}{D:F→Hp→Out}(hc:eF P keep G N c D)(n:Nat):eF P keep G N (.loop c) (dI D n):=by
 intro ro n0 Df fr h M a w hne at_
 generalize hout:dI D n fr h=out at hne
 let I:Nat→Act→World→Prop:=fun m a' w'=>∃fr' h' M',dI D m fr' h'=out∧At keep G N Df M' fr' h' a' w'∧Ext M h w M' h' w'
 intro b k cs hro hb hrm
 have key:∀(n:Nat) a' w',I n a' w'→∃e a'' w'',jf keep G N Df M h w out e a'' w''∧ArrivesIn (Machine.fenced P (jb ro)) P (lone (b.atR a' (.code c:: .inLoop c::k)) cs w') b k cs e a'' w'':=by
  intro n
  induction n with
  |zero=>rintro a' w' ⟨fr',h',M',e,-⟩;rw [aC6] at e;exact absurd e.symm hne
  |succ n ih=>
   rintro a' w' ⟨fr',h',M',e,at',hx⟩
   rw [amX] at e
   have hr:c.wpIn (jb ro) n0 P (Exit.then (fun a w=>I n a w) (jf keep G N Df M h w out)) a' w':=by
    cases e1:D fr' h' with
    |bad=>rw [e1] at e;exact absurd e.symm hne
    |nor fr1 h1=>
     rw [e1] at e
     refine wpIn_mono (hc _ _ _ fr' h' M' a' w' (by rw [e1];simp) at') ?_
     intro x a2 w2 q
     rw [e1] at q
     cases x<;>simp only [jf] at q
     obtain⟨M2,at2,hx2⟩:=q
     exact⟨fr1,h1,M2,e,at2,hx.trans hx2⟩
    |ret fr1 h1=>
     rw [e1] at e
     refine wpIn_mono (hc _ _ _ fr' h' M' a' w' (by rw [e1];simp) at') ?_
     intro x a2 w2 q
     rw [e1] at q
     cases x<;>simp only [jf] at q
     obtain⟨M2,at2,hx2⟩:=q
     subst e
     exact⟨M2,at2,hx.trans hx2⟩
    |ex i fr1 h1=>
     rw [e1] at e
     refine wpIn_mono (hc _ _ _ fr' h' M' a' w' (by rw [e1];simp) at') ?_
     intro x a2 w2 q
     rw [e1] at q
     cases x<;>simp only [jf] at q
     obtain⟨rfl,M2,at2,hx2⟩:=q
     subst e
     exact⟨rfl,M2,at2,hx.trans hx2⟩
   obtain⟨x,a₁,w₁,hq,harr⟩:=hr b (.inLoop c::k) cs hro hb hrm
   cases x with
   |normal=>
    obtain⟨x2,a₂,w₂,hq₂,harr₂⟩:=ih a₁ w₁ hq
    exact⟨x2,a₂,w₂,hq₂,.of_steps (StepsIn.trans harr (.one (fenced_calm hb hrm rfl) stepR_inLoop)) harr₂⟩
   |exit id=>exact⟨_,a₁,w₁,hq,.pass (x:=.inLoop c) rfl (fun _ _=>.inl (by simp)) harr⟩
   |goto l=>exact⟨_,a₁,w₁,hq,.pass (x:=.inLoop c) rfl (fun _ _=>.inl (by simp)) harr⟩
   |ret=>exact⟨_,a₁,w₁,hq,.pass (x:=.inLoop c) rfl (fun _ _=>.inl (by simp)) harr⟩
   |panic ch=>exact⟨_,a₁,w₁,hq,.pass (x:=.inLoop c) rfl (fun _ _=>.inl (by simp)) harr⟩
   |outgrown=>exact⟨_,a₁,w₁,hq,.pass (x:=.inLoop c) rfl (fun _ _=>.inl (by simp)) harr⟩
 obtain⟨x,a',w',hq,harr⟩:=key n a w ⟨fr,h,M,hout,at_,.refl at_.rel⟩
 exact⟨x,a',w',hq,.of_steps (.one (fenced_calm hb hrm rfl) stepR_loop) harr⟩
theorem zi{b:Frame}{a:Act}{k:List Item}{cs:List Frame}{w:World}{c:Code}:step P (lone (b.atR a (.code (.scope c)::k)) cs w)=.next (lone (b.atR a (.code c:: .inScope c::k)) cs w):=
 step_lone_go (by simp [stepG,stepG.exec,Frame.atR])
theorem asW{b:Frame}{a:Act}{k:List Item}{cs:List Frame}{w:World}{c:Code}:step P (lone (b.atR a (.inScope c::k)) cs w)=.next (lone (b.atR a k) cs w):=
 step_lone_go (by simp [stepG,stepG.exec,Frame.atR])
theorem aCs{ro:Option Nat}{n:Nat}{Q:Exit→Act→World→Prop}{a:Act}{w:World}{c:Code}(h:c.wpIn (jb ro) n P (Exit.noGoto Q) a w):(Code.scope c).wpIn (jb ro) n P Q a w:=by
 intro b k cs hro hb hr
 have h0:(lone (b.atR a (.code (.scope c)::k)) cs w).fenced P (jb ro):=fenced_calm hb hr rfl
 obtain⟨e,a₁,w₁,hq,harr⟩:=h b (.inScope c::k) cs hro hb hr
 cases e with
 |normal=>exact⟨.normal,a₁,w₁,hq,.head h0 zi (StepsIn.trans harr (.one (fenced_calm hb hr rfl) asW))⟩
 |exit id=>
  have hx:exitTo id (.inScope c::k)=exitTo id k:=by simp [exitTo]
  exact⟨.exit id,a₁,w₁,hq,fun k' hk=>.head h0 zi (harr.1 k' (by rw [hx];exact hk)),fun hr' hk=>let ⟨k₁,h1,h2⟩:=harr.2 hr' (by rw [hx];exact hk);⟨k₁,h1,.head h0 zi h2⟩⟩
 |goto l=>exact hq.elim
 |ret=>exact⟨_,a₁,w₁,hq,.of_steps (.one h0 zi) harr⟩
 |panic ch=>exact⟨_,a₁,w₁,hq,.of_steps (.one h0 zi) harr⟩
 |outgrown=>exact⟨_,a₁,w₁,hq,.of_steps (.one h0 zi) harr⟩
theorem eF.scope{c:Code}{D:F→Hp→Out}(hc:eF P keep G N c D):eF P keep G N (.scope c) D:=by
 intro ro n Df fr h M a w hne at_
 refine aCs (wpIn_mono (hc _ _ _ fr h M a w hne at_) fun x a' w' q=>?_)
 cases x<;>first|exact q|(revert q;cases D fr h<;>simp [jf])
theorem eF.nor{c:Code}(hw:∀(ro:Option Nat) (n:Nat) (Q:Exit→Act→World→Prop) a w,Q .normal a w→c.wpIn (jb ro) n P Q a w):eF P keep G N c .nor:=by
 intro ro n Df fr h M a w hne at_
 exact hw _ _ _ _ _ ⟨M,at_,.refl at_.rel⟩
theorem eF.bad{c:Code}:eF P keep G N c (fun _ _=>.bad):=fun _ _ _ _ _ _ _ _ hne _=>absurd rfl hne
theorem auP(ops:Array Oper):(List.range ops.size).filterMap (ops[·]?)=ops.toList:=by
 have:∀(n:Nat),n≤ops.size→(List.range n).filterMap (ops[·]?)=ops.toList.take n:=by
  intro n
  induction n with
  |zero=>intro _;rfl
  |succ n ih=>
   intro hn
   rw [List.range_succ,List.filterMap_append,ih (by omega)]
   have hlt:n<ops.size:=by omega
   rw [List.filterMap_cons_some (Array.getElem?_eq_getElem hlt),List.filterMap_nil]
   rw [List.take_add_one,List.getElem?_eq_getElem (by simpa using hlt)]
   simp
 rw [this _ (Nat.le_refl _),List.take_of_length_le (by simp)]
theorem eF.region(hE:∀f F,e f=some F→aJ P G f F){id:Nat}{ops:Array Oper}(hops:∀o∈ops.toList,oH G N o=true):eF P keep G N (.region id ops false) (lQ P keep e ops ops.toList []):=by
 intro ro n Df fr h M a w hne at_
 refine wpIn_region (aCT (fun _ _ _ h=>h) jf.atJ (fun o ho=>vY (hops o ho)) _ _ _ ?_)
 refine aAb hE hops hne _ [] fr h M a w (fun i hi=>List.mem_range.1 hi) at_ (lJ.nil M a) ?_
 rw [auP]
theorem arZ{id:Nat}{ops:Array Oper}{d:Bool}(h:codeOk G N (.region id ops d)=true):∀o∈ops.toList,∀c,o.op≠ .defer c:=fun o ho=>by
 simp only [codeOk,List.all_eq_true] at h
 exact vY (h o ho)
end
end Go.Vm

namespace Go.Vm
noncomputable section
variable{P:Program}{G:Nat}{M:Mp}{h h':Hp}{w:World}{r:V}{keep:Nat→Bool}{N:Nat}{e:FuncId→Option Fun}
theorem aut{t:TypeId}{d:TypeDesc}(ht:P.underlying t=some d):(isAgg t).run P w=.ok (aqn d) w:=by
 simp only [isAgg,Sem.run_bind,run_underlying ht,Result.andThen_ok]
 cases d<;>rfl
theorem aC7{t:TypeId}{v:V}{c:Value}(hr:Rel G M h w)(ha:Rp M v c)(e:vT P t v h=.ok r h'):
  h'=h∧∃d,(do loadVar t (←asAddr c):Sem Value).run P w=.ok d w∧Rp M r d:=by
 unfold vT at e
 split at e
 ·rename_i d hd
  split at e
  ·rename_i hag
   split at e
   ·rename_i ti hti
    obtain⟨i,o,rfl,e⟩:=lU e
    obtain⟨wr,cs,hi,e⟩:=gK e
    obtain⟨L,hL,rfl⟩:=ha.ptr
    split at e
    ·rename_i l hl
     cases e
     obtain⟨xs,hx,hxl,hxs,hxc⟩:=hr.cells hi hL hl
     refine⟨rfl,.agg xs.toArray,?_,aeJ hx hxs⟩
     have:=run_loadCells_list (P:=P) w (L.at o) xs hxc
     rw [hxl] at this
     simp only [asAddr,loadVar,Sem.run_bind,Sem.run_pure,Result.andThen_ok,aut hd,hag]
     simp [sizeOf,typeInfo,hti,this]
    ·cases e
   ·cases e
  ·rename_i hag
   obtain⟨i,o,rfl,e⟩:=lU e
   obtain⟨wr,cs,hi,e⟩:=gK e
   obtain⟨L,hL,rfl⟩:=ha.ptr
   rw [nK] at e
   split at e
   ·rename_i v hv
    cases e
    obtain⟨x,hx,hrx,_⟩:=hr.cell hi hL hv
    refine⟨rfl,x,?_,hrx⟩
    simp only [asAddr,loadVar,Sem.run_bind,Sem.run_pure,Result.andThen_ok,aut hd,hag]
    simp [run_load,hx]
   ·cases e
 ·cases e
def xJ(keep:Nat→Bool):Nat→List V→F→F
 |_,[],fr=>fr
 |i,v::l,fr=>(match keep i with|true=>xJ keep (i+1) l (fr.set (some v) (Pos.of i))|false=>xJ keep (i+1) l fr)
def bD(P:Program):List ResultVar→F→Hp→(List V→R V)→R V
 | [],_,_,k=>k []
 | .tmp t::l,fr,h,k=>(match fr.get (Pos.of t) with|some v=>bD P l fr h fun vs=>k (v::vs)|none=>.bad)
 | .cell a t::l,fr,h,k=>(match fr.get (Pos.of a) with
  |some p=>(match vT P t p h with| .ok v _=>bD P l fr h fun vs=>k (v::vs)| .bad=>.bad)
  |none=>.bad)
def bF(vs:List V)(h:Hp):R V:=match vs with| [v]=>.ok v h|_=>.ok (.tuple (V.ofList vs)) h
def aT(P:Program)(rs:List ResultVar):Out→R V
 | .nor fr h=>bD P rs fr h fun vs=>bF vs h
 | .ret fr h=>bD P rs fr h fun vs=>bF vs h
 |_=>.bad
def bG(P:Program)(keep:Nat→Bool)(N:Nat)(rs:List ResultVar)(D:F→Hp→Out):Fun:=fun args h=>match Nat.ble args.length N with
 |true=>aT P rs (D (xJ keep 0 args .nil) h)
 |false=>.bad
theorem aaY(keep:Nat→Bool)(a:Act):∀(vs:List V) (i:Nat) (fr:F),(∀j v,vs[j]?=some v→Rp M v (a.tmps.getD (i+j) undef))→Nq keep M fr a→Nq keep M (xJ keep i vs fr) a
 | [],_,_,_,hf=>hf
 |v::vs,i,fr,hv,hf=>by
  have hrest:∀j u,vs[j]?=some u→Rp M u (a.tmps.getD (i+1+j) undef):=fun j u hj=>by
   have:=hv (j+1) u (by simpa using hj)
   rwa [show i+(j+1)=i+1+j by omega] at this
  unfold xJ
  split
  ·rename_i hk
   refine aaY keep a vs (i+1) _ hrest fun t x hx=>?_
   by_cases ht:t=i
   ·subst ht
    rw [T.oK] at hx;cases hx
    exact⟨hk,hv 0 v rfl⟩
   ·rw [T.tY _ (fun e=>ht (Pos.aeT e))] at hx
    exact hf t x hx
  ·exact aaY keep a vs (i+1) _ hrest hf
def auv(tmps:Array Value):ResultVar→Sem Value
 | .tmp t=>pure (tmps.getD t undef)
 | .cell a t=>do loadVar t (←asAddr (tmps.getD a undef))
theorem aaL(fn:Func)(tmps:Array Value):results fn tmps=(do
 let vs←fn.results.mapM (auv tmps)
 pure (if h:vs.size=1 then vs[0] else .tuple vs)):=rfl
theorem apF{fr:F}{a:Act}(hr:Rel G M h w)(hf:Nq keep M fr a):∀(rs:List ResultVar) (k:List V→R V),bD P rs fr h k=.ok r h'→
  ∃vs cs,k vs=.ok r h'∧bZ M vs cs∧(rs.mapM (auv a.tmps)).run P w=.ok cs w
 | [],k,e=>⟨[],[],e,rfl,rfl⟩
 | .tmp t::l,k,e=>by
  unfold bD at e
  split at e
  ·rename_i v hv
   obtain⟨vs,cs,e1,hvs,hrun⟩:=apF hr hf l _ e
   refine⟨v::vs,_::cs,e1,⟨_,_,(hf t v hv).2,hvs,rfl⟩,?_⟩
   rw [List.mapM_cons]
   simp only [auv,Sem.run_bind,Sem.run_pure,Result.andThen_ok,hrun]
  ·cases e
 | .cell x t::l,k,e=>by
  unfold bD at e
  split at e
  ·rename_i p hp
   split at e
   ·rename_i v h2 hl
    obtain⟨_,d,hd,hvd⟩:=aC7 hr (hf x p hp).2 hl
    obtain⟨vs,cs,e1,hvs,hrun⟩:=apF hr hf l _ e
    refine⟨v::vs,d::cs,e1,⟨_,_,hvd,hvs,rfl⟩,?_⟩
    rw [List.mapM_cons,Sem.run_bind];rw [show(auv a.tmps (.cell x t)).run P w=.ok d w from hd]
    simp only [Sem.run_bind,Sem.run_pure,Result.andThen_ok,hrun]
   ·cases e
  ·cases e
theorem Sv{fn:Func}{fr:F}{a:Act}(hr:Rel G M h w)(hf:Nq keep M fr a)(e:bD P fn.results.toList fr h (fun vs=>bF vs h)=.ok r h'):
  h'=h∧∃c,(results fn a.tmps).run P w=.ok c w∧Rp M r c:=by
 obtain⟨vs,cs,e1,hvs,hrun⟩:=apF hr hf _ _ e
 have hlen:=hvs.length
 have hm:(fn.results.mapM (auv a.tmps)).run P w=.ok cs.toArray w:=by
  rw [Array.mapM_eq_mapM_toList]
  simp only [Sem.run_map,hrun]
  rfl
 unfold bF at e1
 split at e1
 ·rename_i v
  cases e1
  obtain⟨x,xs,hx,hxs,rfl⟩:=hvs
  cases hxs
  refine⟨rfl,x,?_,hx⟩
  rw [aaL,Sem.run_bind,hm]
  simp
 ·rename_i hn
  cases e1
  refine⟨rfl,.tuple cs.toArray,?_,auu hvs⟩
  rw [aaL,Sem.run_bind,hm]
  have hne:cs.toArray.size≠1:=by
   intro h1
   have:vs.length=1:=by simp at h1;omega
   obtain⟨v,rfl⟩:=List.length_eq_one_iff.1 this
   exact hn v rfl
  simp [hne] at*
  simp [hne]
theorem aAX{f:FuncId}{fn:Func}{c:Code}{D:F→Hp→Out}(hf:P.funcs[f]?=some fn)(hn:(fn.name== "runtime.NumGoroutine")=false)(hb:fn.body=some c)(hD:eF P keep G fn.ntmps c D):
  aJ P G f (bG P keep fn.ntmps fn.results.toList D):=by
 intro args h r h' M w cargs e hr hargs
 have hrun:(callFunc f cargs.toArray).run P w=.ok (.enter f cargs.toArray) w:=by
  unfold callFunc
  rw [Sem.run_bind,run_program];have hn':¬fn.name= "runtime.NumGoroutine" :=by simpa using hn
  simp [hf,hn',hb]
 rw [hrun]
 simp only [Opq]
 unfold bG at e
 split at e
 ·rename_i hle
  have hle:=Nat.le_of_ble_eq_true hle
  refine calls_of_wp hf hb ?_
  have hlen:=hargs.length
  have hat:At keep G fn.ntmps [] M (xJ keep 0 args .nil) h {tmps:=cargs.toArray++Array.replicate (fn.ntmps - cargs.toArray.size) undef,defers:= []} w:=by
   refine⟨hr,aaY keep _ args 0 _ (fun j v hj=>?_) (fun t v hv=>by rw [T.get_nil] at hv;cases hv),by simp;omega,rfl⟩
   obtain⟨x,hx,hrx⟩:=hargs.get hj
   have hj':j<cargs.length:=by
    rcases Nat.lt_or_ge j cargs.length with h1|h1
    ·exact h1
    ·rw [List.getElem?_eq_none h1] at hx;cases hx
   have:(cargs.toArray++Array.replicate (fn.ntmps - cargs.toArray.size) undef).getD (0+j) undef=x:=by
    rw [Array.getD_eq_getD_getElem?,Array.getElem?_append_left (by simpa using hj')]
    simp [hx]
   simp only [this]
   exact hrx
  cases e1:D (xJ keep 0 args .nil) h with
  |bad=>rw [e1] at e;cases e
  |ex i fr2 h2=>rw [e1] at e;cases e
  |nor fr2 h2=>
   rw [e1] at e
   refine wp_mono (hD.wp _ _ _ _ _ _ (by rw [e1];simp) hat) ?_
   intro x a' w' q
   rw [e1] at q
   cases x<;>simp only [jf] at q
   obtain⟨M',at',hx⟩:=q
   obtain⟨rfl,v,hv,hrv⟩:=Sv at'.rel at'.fr e
   exact⟨at'.plain,v,hv,v,rfl,M',hrv,at'.rel,hx⟩
  |ret fr2 h2=>
   rw [e1] at e
   refine wp_mono (hD.wp _ _ _ _ _ _ (by rw [e1];simp) hat) ?_
   intro x a' w' q
   rw [e1] at q
   cases x<;>simp only [jf] at q
   obtain⟨M',at',hx⟩:=q
   obtain⟨rfl,v,hv,hrv⟩:=Sv at'.rel at'.fr e
   exact⟨at'.plain,v,hv,v,rfl,M',hrv,at'.rel,hx⟩
 ·cases e
def atM(G:Nat)(fn:Func):Bool:=(match fn.body with|some c=>codeOk G fn.ntmps c|none=>false)&&!(fn.name== "runtime.NumGoroutine")
end
end Go.Vm

namespace Go.Vm
noncomputable section
variable{P:Program}{M:Mp}{h:Hp}{w:World}{r:V}
def DC(P:Program)(M:Mp)(w:World)(s:Sem Value)(o:Ob)(mk:Pos→V):Prop:=
 ∃c w' b n,s.run P w=.ok c w'∧w'.heap=w.heap.push b∧w'.os=w.os∧w'.tape=w.tape∧w'.output=w.output∧
  (∀N,M.le N→jZ N ⟨w.heap.size,0,n⟩ w' o)∧∀(N:Mp) p,N p=some ⟨w.heap.size,0,n⟩→Rp N (mk p) c
theorem Y2(vs:List V)(c:Array Value)(el:TypeId)(fr:Nat×Nat)(hx:bZ M vs (c.toList.take vs.length))(hs:∀y∈c.toList,scalar y=true)
  (hf:∀k,k≤c.size→¬(fr.1≤k∧k<fr.2)) (full:Bool) (hfull:full=true→c.size=vs.length) {w':World} (hw:w'.heap=w.heap.push (.cells c el fr)):
  ∀N,M.le N→jZ N ⟨w.heap.size,0,c.size⟩ w' (.cells (.rw el full) vs):=by
 intro N hle
 refine⟨c,el,fr,by rw [hw];simp,rfl,fun k v hk=>?_,rfl,fun k _ hk=>hf k hk,fun h=>⟨rfl,hfull h⟩⟩
 obtain⟨x,hx',hrx⟩:=hx.get hk
 rw [List.getElem?_take] at hx'
 split at hx'
 ·exact⟨x,by simpa using hx',hrx.mono hle,hs x (List.mem_of_getElem? hx')⟩
 ·cases hx'
abbrev A:=Option (Ob×(Pos→V))
def aqo(t:TypeId)(z:List V):A:=some (.cells (.rw t true) z,fun p=>.ptr p 0)
def akS(t:TypeId)(x:V):A:=match gu x with|true=>some (.cells (.rw t true) x.cells,fun p=>.ptr p 0)|false=>none
def fD(el:TypeId)(z:List V)(len:Nat)(qs:List (Nat×Nat×V)):A:=match NJ z qs with
 |some cs=>some (.cells (.rw el true) cs,fun p=>.slice p 0 len (.kn len))
 |none=>none
def Ij(el:TypeId)(bt:Nat)(z:List V)(l c:V):A:=match l,c with
 | .int _ (.ofNat l),.int _ (.ofNat c)=>(match Nat.ble l c,Nat.ble (Nat.mul c bt) 140737488355328 with
  |true,true=>some (.cells (.rw el true) (times c z),fun p=>.slice p 0 l (.kn c))
  |_,_=>none)
 |_,_=>none
def Ou(x:V):A:=match x with
 | .str s=>(match Nat.blt s.length 4611686018427387904 with|true=>some (.bytes (u8s s),fun p=>.slice p 0 s.length (.un 1))|false=>none)
 |_=>none
variable{o:Ob}{mk:Pos→V}
theorem aKz{t:TypeId}{x:V}{c:Value}(hx:Rp M x c)(e:akS t x=some (o,mk)):DC P M w (Instr.box t c) o mk:=by
 unfold akS at e
 split at e
 ·rename_i hn
  cases e
  have hc:=hx.cells
  have hl:x.cells.length=c.cells.size:=by have:=hc.length;simpa using this.symm
  refine⟨.pointer (some ⟨w.heap.size,0,none⟩),w.alloc (.cells c.cells t),_,_,?_,rfl,rfl,rfl,rfl,Y2 (w':=w.alloc (.cells c.cells t)) x.cells c.cells t (0,0) (by rw [hl,←Array.length_toList,List.take_length];exact hc) (Bq hx hn) (by simp) true (fun _=>hl.symm) rfl,fun N p hp=>yF hp 0⟩
  simp [Instr.box,newVar,newRow]
 ·cases e
theorem aKy{t:TypeId}{it:TypeInfo}{z:Value}(hit:P.info? t=some it)(hz:it.zero=some z){zs:List V}(hzs:bZ M zs z.cells.toList)(hsc:∀y∈z.cells.toList,scalar y=true)
  (e:aqo t zs=some (o,mk)):DC P M w (Instr.alloc t true (.tuple #[])) o mk:=by
 cases e
 have hl:=hzs.length
 refine⟨.pointer (some ⟨w.heap.size,0,none⟩),w.alloc (.cells z.cells t),_,_,?_,rfl,rfl,rfl,rfl,Y2 (w':=w.alloc (.cells z.cells t)) zs z.cells t (0,0) (by rw [show zs.length=z.cells.toList.length from hl.symm,List.take_length];exact hzs) hsc (by simp) true (fun _=>by rw [←hl];simp) rfl,fun N p hp=>yF hp 0⟩
 simp [Instr.alloc,zeroValue,typeInfo,hit,hz,newVar,newRow]
theorem aqs{t el:TypeId}{ti:TypeInfo}{z:Value}(hd:P.underlying t=some (.slice el))(E:ElemOk P el ti z){len:Nat}(hpos:0<len)(hsmall:len*ti.size≤16777216)
  {zs:List V} (hzs:bZ M zs ((Array.range (len*ti.size)).map (z.cells[· % z.cells.size]!)).toList) {ps:List (Nat×V)} {qs:List (Nat×Nat×V)} {ys:Array (Nat×Value)}
  (hp:placed (fun i=>some (i*ti.size,ti.size)) ps=some qs) (h1:ps.map (·.1)=ys.toList.map (·.1)) (h2:bZ M (ps.map (·.2)) (ys.toList.map (·.2))) (e:fD el zs len qs=some (o,mk)):
  DC P M w (Instr.buildSlice t len ys) o mk:=by
 unfold fD at e
 split at e
 ·rename_i cs hf
  cases e
  have hsc:∀y∈((Array.range (len*ti.size)).map (z.cells[· % z.cells.size]!)).toList,scalar y=true:=by
   intro y hy
   simp only [Array.toList_map,List.mem_map] at hy
   obtain⟨i,_,rfl⟩:=hy
   have hlt:i % z.cells.size<z.cells.size:=Nat.mod_lt _ (by rw [E.cells];exact E.size)
   rw [getElem!_pos z.cells _ hlt]
   exact E.plain _ (by simp)
  obtain⟨xs',g1,g2,g3⟩:=aqc hp hf hzs hsc h1 h2
  have hl:=g2.length
  have hnz:¬len*ti.size=0:=by have:=Nat.mul_pos hpos E.size;omega
  exact⟨_,w.alloc (.cells xs' el),_,_,run_buildSlice w t el len ys xs' ti z hd E.info E.zero (by omega) hnz g1,rfl,rfl,rfl,rfl,
   Y2 (w':=w.alloc (.cells xs' el)) cs xs' el (0,0) (by rw [show cs.length=xs'.toList.length from hl.symm,List.take_length];exact g2) g3 (by simp) true (fun _=>by rw [←hl];simp) rfl,
   fun N p hp=>ji (o:=0) (k:=.kn len) (m:=len) hp ⟨rfl,Nat.le_refl _⟩⟩
 ·cases e
theorem as5{t el:TypeId}{ti:TypeInfo}{z:Value}(hd:P.underlying t=some (.slice el))(E:ElemOk P el ti z){zs:List V}(hzs:bZ M zs z.cells.toList)
  {l c:V} {a b:Value} (hl:Rp M l a) (hc:Rp M c b) (e:Ij el ti.bytes zs l c=some (o,mk)):DC P M w (Instr.makeSlice t a b) o mk:=by
 unfold Ij at e
 split at e
 ·rename_i k1 n1 k2 n2
  cases hl.int
  cases hc.int
  split at e
  ·rename_i c1 c2
   cases e
   have c1':n1≤n2:=Nat.le_of_ble_eq_true c1
   have c2':n2*ti.bytes≤140737488355328:=Nat.le_of_ble_eq_true c2
   have hle:n2≤n2*ti.bytes:=Nat.le_mul_of_pos_right _ E.bytes
   have hcast:(ti.bytes:Int)*(n2:Int)≤281474976710656:=by
    have:((ti.bytes*n2:Nat):Int)≤281474976710656:=by rw [Nat.mul_comm];omega
    rwa [Int.natCast_mul] at this
   have hrun:=run_make (P:=P) w t el ti z hd E.info E.zero k1 k2 (n1:Int) (n2:Int) (by omega) (by omega) hcast (by omega)
   simp only [Int.toNat_natCast] at hrun
   have hcs:(madeCells z.cells (n2*ti.size)).toList=(List.replicate n2 z.cells.toList).flatten:=by
    unfold madeCells
    rw [←E.cells]
    exact ET z.cells n2 (by rw [E.cells];exact E.size)
   have hrep:=WH hzs n2
   have hlen:=hrep.length
   exact⟨_,w.alloc (.cells (madeCells z.cells (n2*ti.size)) el),_,_,hrun,rfl,rfl,rfl,rfl,
    Y2 (w':=w.alloc (.cells (madeCells z.cells (n2*ti.size)) el)) (times n2 zs) (madeCells z.cells (n2*ti.size)) el (0,0) (by rw [hcs,←hlen,List.take_length];exact hrep)
     (by
      intro y hy
      rw [hcs] at hy
      obtain⟨l,hl,hyl⟩:=List.mem_flatten.1 hy
      rw [(List.mem_replicate.1 hl).2] at hyl
      exact E.plain y hyl) (by simp) true (fun _=>by rw [←hlen,←hcs];simp) rfl,
    fun N p hp=>ji (o:=0) (n:=n1) (k:=.kn n2) (m:=n2) hp ⟨rfl,c1'⟩⟩
  ·cases e
 ·cases e
theorem awe{s d el:TypeId}(hs:P.underlying s=some .string)(hd:P.underlying d=some (.slice el))(he:P.underlying el=some (.int .u8)){x:V}{a:Value}(hx:Rp M x a)(e:Ou x=some (o,mk)):
  DC P M w (convert s d a) o mk:=by
 unfold Ou at e
 split at e
 ·rename_i l
  obtain⟨hl,rfl⟩:=hx.str
  split at e
  ·rename_i hbl
   have hbl':l.length<4611686018427387904:=by simpa [Nat.blt_eq] using hbl
   cases e
   have hrun:=run_bytes_of_string (P:=P) w s d el (bts l) hs hd he
   have hge:=grownCap_ge w (bts l).size 0 el
   have hgl:grownCap w (bts l).size 0 el≤9223372036854775807:=grownCap_le_maxLen _ _ _ _ (by rw [lT];show _≤9223372036854775807;omega)
   generalize hC:grownCap w (bts l).size 0 el=C at hrun hge hgl
   have hbs:(bytesRow (bts l) C).toList=(l.map fun b=>Value.int .u8 (.ofNat b))++List.replicate (C - l.length) (.int .u8 0):=by
    simp only [bytesRow,Array.toList_append,Array.toList_map,lT,Array.toList_replicate]
    congr 1
    simp only [bts,List.map_map]
    apply List.map_congr_left
    intro b hb
    simp [Ul (hl b hb)]
   have hsz:(bytesRow (bts l) C).size=C:=by
    rw [←Array.length_toList,hbs];rw [lT] at hge;simp;omega
   have hrep:bZ M (u8s l) (l.map fun b=>Value.int .u8 (.ofNat b)):=by
    refine bZ.mk (by simp [u8s]) (fun i v hi=>?_)
    simp only [u8s,List.getElem?_map] at hi⊢
    cases hsi:l[i]? with
    |none=>rw [hsi] at hi;cases hi
    |some b=>rw [hsi] at hi;cases hi;exact⟨_,rfl,iq M _ _⟩
   rw [lT] at hrun hge
   exact⟨_,w.drew.alloc (.cells (bytesRow (bts l) C) el ((bytesRow (bts l) C).size,(bytesRow (bts l) C).size+1)),_,_,hrun,rfl,rfl,rfl,rfl,
    (fun N hle=>⟨_,_,_,by simp only [World.alloc];exact Array.getElem?_push_size,rfl,fun k v hk=>by
     obtain⟨x,hx',hrx⟩:=hrep.get hk
     have hbx:(bytesRow (bts l) C)[0+k]?=some x:=by
      rw [Nat.zero_add,←Array.getElem?_toList,hbs,List.getElem?_append_left (by rw [List.getElem?_eq_some_iff] at hx';exact hx'.1)];exact hx'
     refine⟨x,hbx,hrx.mono hle,?_⟩
     obtain⟨b,_,rfl⟩:=List.mem_map.1 (List.mem_of_getElem? hx');rfl,fun k _ hk h=>by
      have h1:(bytesRow (bts l) C).size≤k:=h.1
      exact absurd hk (by show ¬k<(bytesRow (bts l) C).size;omega)⟩),
    fun N p hp=>ji (o:=0) (n:=l.length) (k:=.un 1) (m:=C) hp ⟨⟨hge,hgl⟩,by show 0+0+C*1=(bytesRow (bts l) C).size;rw [hsz];omega⟩⟩
  ·cases e
 ·cases e
def atP(P:Program)(t:TypeId)(vs:List V):A:=match vs with
 | []=>(match P.underlying t with
  |some (.slice el)=>(match P.info? el with|some _=>some (.cells (.rw el true) [],fun p=>.slice p 0 0 (.kn 0))|none=>none)
  |_=>none)
 |_=>none
def Ia(P:Program)(t:TypeId)(len:Nat)(is:List Nat)(vs:List V):A:=match P.underlying t with
 |some (.slice el)=>(match NM P el with
  |some ti=>(match ti.zero with
   |some z=>(match Ie ((Array.range (len*ti.size)).map (z.cells[· % z.cells.size]!)).toList,placed (fun i=>some (i*ti.size,ti.size)) (is.zip vs),Nat.blt 0 len,Nat.ble (len*ti.size) 16777216 with
    |some zs,some qs,true,true=>fD el zs len qs
    |_,_,_,_=>none)
   |none=>none)
  |none=>none)
 |_=>none
def Bv(P:Program)(op:Op)(vs:List V):A:=
 match op with
 | .alloc t=>(match vs with| []=>(match aaA P t with|some z=>aqo t z|none=>none)|_=>none)
 | .box t _=>(match vs with| [x]=>akS t x|_=>none)
 | .buildSlice t len ps=>(match Nat.beq len 0 with|true=>atP P t vs|false=>Ia P t len (ps.toList.map (·.1)) vs)
 | .makeSlice t _ _=>(match vs with
  | [l,c]=>(match P.underlying t with
   |some (.slice el)=>(match NM P el,aaA P el with|some ti,some z=>Ij el ti.bytes z l c|_,_=>none)
   |_=>none)
  |_=>none)
 | .makeMap _ r=>(match r,vs with
  |none,[]=>some (.map [],fun p=>.map p)
  |_,_=>none)
 | .convert s d _=>(match vs with
  | [x]=>(match P.underlying s,P.underlying d with
   |some .string,some (.slice el)=>(match P.underlying el with|some (.int .u8)=>Ou x|_=>none)
   |_,_=>none)
  |_=>none)
 |_=>none
def ayN(P:Program)(M:Mp)(w:World)(s:Sem Next)(o:Ob)(mk:Pos→V):Prop:=
 ∃c w' b n,s.run P w=.ok (.value c) w'∧w'.heap=w.heap.push b∧w'.os=w.os∧w'.tape=w.tape∧w'.output=w.output∧
  (∀N,M.le N→jZ N ⟨w.heap.size,0,n⟩ w' o)∧∀(N:Mp) p,N p=some ⟨w.heap.size,0,n⟩→Rp N (mk p) c
theorem DC.opq{s:Sem Value}(g:DC P M w s o mk):ayN P M w (do pure (.value (←s))) o mk:=by
 obtain⟨c,w',b,n,h1,h2⟩:=g
 exact⟨c,w',b,n,by simp [h1],h2⟩
theorem azg{op:Oper}{a:Act}{vs:List V}(hv:bZ M vs (op.op.operands.toList.map a.eval))(e0:Bv P op.op vs=some (o,mk)):
  ayN P M w (execOp a.eval op) o mk:=by
 obtain⟨dst,op,type,pos,after,guard⟩:=op
 simp only at hv e0
 cases op<;>simp only [Bv] at e0<;>try (cases e0;done)
 case alloc t=>
  split at e0
  ·split at e0
   ·rename_i z hz
    obtain⟨it,zv,h1,h2,h3⟩:=Kv hz
    exact(aKy h1 h2 (h3 M).1 (h3 M).2 e0).opq
   ·cases e0
  ·cases e0
 case box t x=>
  split at e0
  ·exact(aKz (vF rfl hv) e0).opq
  ·cases e0
 case makeMap t rs=>
  split at e0
  ·cases e0
   have gd:DC P M w (Instr.makeMap t none) (.map []) (fun p=>.map p):=⟨.map (some w.heap.size),w.alloc (.map #[] 0),_,0,by simp [Instr.makeMap],rfl,rfl,rfl,rfl,
    fun N _=>⟨#[],0,(by show(w.heap.push _)[w.heap.size]?=_;simp),yI.nil N⟩,fun N p hp=>⟨rfl,_,hp,rfl⟩⟩
   exact gd.opq
  ·cases e0
 case convert s d x=>
  split at e0
  ·split at e0
   ·rename_i el hs hd
    split at e0
    ·rename_i he'
     exact(awe hs hd he' (vF rfl hv) e0).opq
    ·cases e0
   ·cases e0
  ·cases e0
 case makeSlice t l c=>
  split at e0
  ·obtain⟨h1,h2⟩:=ops2 rfl hv
   split at e0
   ·rename_i el hd
    split at e0
    ·rename_i ti z hti hz
     obtain⟨zv,E⟩:=Bg hti
     obtain⟨it,zv',k1,k2,k3⟩:=Kv hz
     rw [E.info] at k1;cases k1
     rw [E.zero] at k2;cases k2
     exact(as5 hd E (k3 M).1 h1 h2 e0).opq
    ·cases e0
   ·cases e0
  ·cases e0
 case buildSlice t len ps=>
  have hvl:=hv.length
  have e1:(Op.buildSlice t len ps).operands.toList.map a.eval=ps.toList.map fun p=>a.eval p.2:=by simp [Op.operands]
  rw [e1] at hv hvl
  have hl:vs.length=ps.toList.length:=by simpa using hvl.symm
  obtain⟨z1,z2⟩:=zip_fst (ρ:=a.eval) ps.toList hl
  have hys:(ps.map fun(i,x)=>(i,a.eval x)).toList=ps.toList.map fun p=>(p.1,a.eval p.2):=by simp
  have h1:((ps.toList.map (·.1)).zip vs).map (·.1)=(ps.map fun(i,x)=>(i,a.eval x)).toList.map (·.1):=by rw [hys];exact z1
  have h2:bZ M (((ps.toList.map (·.1)).zip vs).map (·.2)) ((ps.map fun(i,x)=>(i,a.eval x)).toList.map (·.2)):=by
   rw [hys,z2,List.map_map];exact hv
  split at e0
  ·rename_i hz
   have hz:=Nat.eq_of_beq_eq_true hz
   subst hz
   unfold atP at e0
   split at e0
   ·have hps:ps= #[]:=by
     cases ps with
     |mk l=>cases l with
      |nil=>rfl
      |cons x l=>simp at hl
    subst hps
    split at e0
    ·rename_i el hd
     split at e0
     ·rename_i ti hti
      cases e0
      have gd:DC P M w (Instr.buildSlice t 0 #[]) (.cells (.rw el true) []) (fun p=>.slice p 0 0 (.kn 0)):=⟨.slice (some ⟨w.heap.size,0,none⟩) 0 0,w.alloc (.cells #[] el),_,_,az8 w t el ti hd hti,rfl,rfl,rfl,rfl,
       Y2 (M:=M) (w':=w.alloc (.cells #[] el)) [] #[] el (0,0) rfl (by simp) (by simp) true (fun _=>rfl) rfl,fun N p hp=>ji (o:=0) (n:=0) (k:=.kn 0) (m:=0) hp ⟨rfl,Nat.le_refl 0⟩⟩
      have gq:=gd.opq
      rw [show(#[]:Array (Nat×Value))=(#[]:Array (Nat×Operand)).map (fun x=>(x.1,a.eval x.2)) from by simp] at gq
      exact gq
     ·cases e0
    ·cases e0
   ·cases e0
  unfold Ia at e0
  split at e0
  ·rename_i el hd
   split at e0
   ·rename_i ti hti
    obtain⟨zv,E⟩:=Bg hti
    split at e0
    ·rename_i z hz
     rw [E.zero] at hz;cases hz
     split at e0
     ·rename_i zs qs hzs hq hp1 hp2
      exact(aqs hd E (by simpa [Nat.blt_eq] using hp1) (Nat.le_of_ble_eq_true hp2) (Bj hzs M).1 hq h1 h2 e0).opq
     ·cases e0
    ·cases e0
   ·cases e0
  ·cases e0
end
end Go.Vm

namespace Go.Vm
noncomputable section
variable{P:Program}
def setH(h:Hp):R V→R V
 | .ok v _=>.ok v h
 | .bad=>.bad
theorem az5(h h':Hp)(v:V):setH h (.ok v h')=.ok v h:=rfl
def Pu(m:Hp→R V):Prop:=∀h g,m g=setH g (m h)
theorem Pu.ok(v:V):Pu fun h=>.ok v h:=fun _ _=>rfl
theorem Pu.asInt{v:V}{k:IntKind→Int→Hp→R V}(hk:∀a n,Pu (k a n)):Pu fun h=>asInt v fun a n=>k a n h:=by
 intro h g;unfold Vm.asInt;cases v<;>first|exact hk _ _ h g|rfl
theorem Pu.ug{v:V}{k:Pos→Nat→Hp→R V}(hk:∀a n,Pu (k a n)):Pu fun h=>ug v fun a n=>k a n h:=by
 intro h g;unfold Vm.ug;cases v<;>first|exact hk _ _ h g|rfl
theorem Pu.lV{v:V}{k:Nat→Hp→R V}(hk:∀n,Pu (k n)):Pu fun h=>lV v fun n=>k n h:=by
 intro h g;unfold Vm.lV;cases v<;>first|rfl|(rename_i a n;cases n<;>first|exact hk _ h g|rfl)
theorem Pu.asBool{v:V}{k:Bool→Hp→R V}(hk:∀n,Pu (k n)):Pu fun h=>asBool v fun n=>k n h:=by
 intro h g;unfold Vm.asBool;cases v<;>first|exact hk _ h g|rfl
theorem Pu.iW{v:Option V}{d:Nat}{k:Nat→Hp→R V}(hk:∀n,Pu (k n)):Pu fun h=>iW v d fun n=>k n h:=by
 intro h g;unfold Vm.iW;cases v<;>first|exact hk _ h g|exact Pu.lV hk h g
theorem auF(k:IntKind)(n:Int):Pu (iw k n):=by intro h g;rw [fP,fP,az5]
theorem aeO(b:Bool):Pu (fM b):=by intro h g;rw [gm,gm,az5]
theorem aJN(c a b:V):Pu (atI c a b):=Pu.asBool fun n=>by cases n<;>exact Pu.ok _
theorem ayZ(x:V):Pu (aK x):=by
 intro h g;unfold aK;cases x<;>first|rfl|(rename_i fn _ _;cases fn<;>rfl)
theorem aCM(n:Nat)(x:V):Pu (bJ n x):=by
 intro h g;unfold bJ;cases x<;>first|rfl|(simp only [];generalize aC1 n _=q;cases q<;>rfl)
theorem aPB(op:UnOp)(x:V):Pu (oUn op x):=by
 intro h g;unfold oUn;cases op<;>first|exact Pu.asInt (fun _ _=>auF _ _) h g|exact Pu.asBool (fun _=>aeO _) h g|rfl
theorem aHz(op:BinOp)(k:IntKind)(a b:Int):Pu (YZ op k a b):=by
 intro h g;simp only [YZ,fP,dB];(repeat' split)<;>first|rfl|simp_all [setH]
theorem aNx(op:BinOp)(k:IntKind)(a b:Int):Pu (am7 op k a b):=by
 intro h g;simp only [am7,fP,gm,dB];(repeat' split)<;>first|rfl|simp_all [setH]
theorem aNt(op:BinOp)(a b:List Nat):Pu (amw op a b):=by
 intro h g;simp only [amw,fP,gm,dB];(repeat' split)<;>first|rfl|simp_all [setH]
theorem aJM(c:EqC)(x y:V){k:Bool→Hp→R V}(hk:∀b,Pu (k b)):Pu fun h=>ahw c x y fun b=>k b h:=by
 intro h g;simp only [ahw];(repeat' split)<;>first|rfl|exact hk _ h g|(simp_all [setH];done)
theorem aNy(op:BinOp)(c:EqC)(x y:V):Pu (aI op c x y):=by
 intro h g
 unfold aI
 cases x<;>(try cases y)<;>simp only []<;>first
  |rfl
  |exact aNt _ _ _ h g
  |(cases TU op<;>simp only []<;>first
    |exact aHz _ _ _ _ h g
    |(split<;>first|exact aNx _ _ _ _ h g|rfl))
  |(cases op<;>first|rfl|exact aJM _ _ _ (fun _=>aeO _) h g)
theorem aNz(op:BinOp)(t:TypeId)(fs:Array Field)(x y:V):Pu (Zm P op t fs x y):=by
 intro h g
 unfold Zm
 cases x<;>try rfl
 cases y<;>try rfl
 simp only []
 split
 ·split
  ·cases op<;>first|exact aeO _ h g|rfl
  ·rfl
 ·rfl
theorem WN{vs:List V}{k:V→Hp→R V}(hk:∀x,Pu (k x)):Pu fun h=>v1 vs fun x=>k x h:=by
 intro h g;unfold v1;rcases vs with _|⟨x,_|⟨y,l⟩⟩<;>first|rfl|exact hk _ h g
theorem aCK{vs:List V}{k:V→V→Hp→R V}(hk:∀x y,Pu (k x y)):Pu fun h=>v2 vs fun x y=>k x y h:=by
 intro h g;unfold v2;rcases vs with _|⟨x,_|⟨y,_|⟨z,l⟩⟩⟩<;>first|rfl|exact hk _ _ h g
theorem aPA{vs:List V}{k:V→V→V→Hp→R V}(hk:∀x y z,Pu (k x y z)):Pu fun h=>v3 vs fun x y z=>k x y z h:=by
 intro h g;unfold v3;rcases vs with _|⟨x,_|⟨y,_|⟨z,_|⟨u,l⟩⟩⟩⟩<;>first|rfl|exact hk _ _ _ h g
theorem aCO(k:IntKind)(x:V):Pu (kU k x):=Pu.asInt fun _ _=>auF _ _
theorem aCN(x:V):Pu (UA x):=by intro h g;unfold UA;cases x<;>rfl
theorem auG(o:Nat)(x:V):Pu (aC o x):=by
 refine Pu.ug fun i n h g=>?_
 simp only [dB,setH]
theorem aJO(sz:Nat)(x i:V):Pu (bU sz x i):=by
 refine Pu.lV fun k h g=>?_
 simp only [dB]
 cases x<;>first|rfl|(simp only [];split<;>rfl)
theorem aJP(l sz:Nat)(x i:V):Pu (ahJ l sz x i):=by
 refine Pu.lV fun k=>Pu.ug fun i o h g=>?_
 simp only [dB]
 split<;>rfl
theorem aEN(x i:V):Pu (dG x i):=by
 refine Pu.lV fun k h g=>?_
 cases x<;>first|rfl|(simp only [];split<;>rfl)
theorem aiv(x:V)(lo hi:Option V):Pu (dZ x lo hi):=by
 intro h g
 unfold dZ
 cases x<;>try rfl
 rename_i s
 exact Pu.iW (k:=fun hh h=>iW lo 0 fun l=>match Nat.ble hh s.length,Nat.ble l hh with|true,true=>.ok (.str (takeN (hh - l) (aa8 l s))) h|_,_=>.bad)
  (fun hh=>Pu.iW (k:=fun l h=>match Nat.ble hh s.length,Nat.ble l hh with|true,true=>.ok (.str (takeN (hh - l) (aa8 l s))) h|_,_=>.bad) fun l=>by intro h g;simp only [];split<;>rfl) h g
theorem aeN(sz:Nat)(i:Pos)(o len top:Nat)(lo hi:Option V)(m:Nat):Pu fun h=>YX sz i o len top lo hi h m:=by
 unfold YX
 refine Pu.iW fun hh=>Pu.iW fun l=>?_
 intro h g
 simp only [dB]
 split<;>rfl
theorem aCL(sz:Nat)(i:Pos)(o len u:Nat)(lo hi:Option V):Pu fun h=>ahu sz i o len u lo hi h:=by
 unfold ahu
 refine Pu.iW fun hh=>Pu.iW fun l=>?_
 intro h g
 simp only [dB]
 split
 ·cases l
  ·rfl
  ·simp only []
   split<;>rfl
 ·rfl
theorem aeM(v:V)(lo hi:Option V)(m:Nat):Pu fun h=>Oe v lo hi h m:=by
 unfold Oe
 refine Pu.iW fun hh=>Pu.iW fun l=>?_
 intro h g
 split<;>rfl
theorem xC(sz:Nat)(x:V)(lo hi mx:Option V):Pu (eX sz x lo hi mx):=by
 intro h g
 unfold eX
 split
 ·unfold amB
  cases x<;>try rfl
  ·rename_i i o len cap
   cases cap with
   |kn c=>exact Pu.iW (fun m=>aeN sz i o len c lo hi m) h g
   |un u=>cases mx with
    |none=>exact aCL sz i o len u lo hi h g
    |some mv=>exact Pu.lV (fun m=>aeN sz i o len len lo hi m) h g
  ·exact Pu.iW (fun m=>aeM _ lo hi m) h g
  ·cases mx with
   |none=>exact aeM _ lo hi 0 h g
   |some mv=>rfl
 ·rfl
theorem aiw(sz len:Nat)(x:V)(lo hi mx:Option V):Pu (Om sz len x lo hi mx):=by
 intro h g
 unfold Om
 split
 ·exact Pu.ug (fun i o=>Pu.iW fun m=>aeN sz i o len len lo hi m) h g
 ·rfl
theorem aHA(z:List V)(qs:List (Nat×Nat×V)):Pu (bK z qs):=by intro h g;unfold bK;split<;>rfl
theorem aNw(k:Nat)(x:V)(hk:Nat.beq k 3=false):Pu (aY k x):=by
 intro h g
 unfold aY
 split
 ·rename_i hf
  unfold aCX
  cases x<;>try rfl
  simp only [Gs] at hf
  rw [hf] at hk;cases hk
 ·rfl
theorem aNu(x y:V):Pu (apO x y):=Pu.asInt fun _ _=>Pu.asInt fun _ _=>by intro h g;split<;>rfl
theorem aNv(x y:V):Pu (apP x y):=Pu.asInt fun _ _=>Pu.asInt fun _ _=>by intro h g;split<;>rfl
def aIb(lo hi mx:Option Operand):Bool:=match lo,hi,mx with
 |some _,some _,none=>true
 |_,_,_=>false
def Uw(P:Program)(op:Op):Bool:=match op with
 | .move _| .assign _| .pick .. | .build .. | .nilCheck _| .binOp .. | .unOp .. | .makeInterface .. | .makeFunc .. | .fieldAddr .. | .indexAddr .. | .index .. | .extract .. =>true
 | .slice t _ lo hi mx=>(match P.underlying t with
  |some (.slice _)=>not (aIb lo hi mx)
  |_=>true)
 | .convert s d _=>(match P.underlying s,P.underlying d with
  |some _,some (.int _)=>true
  |some .string,some .string=>true
  |_,_=>false)
 | .call c=>(match c.callee with
  | .builtin b=>(match b with
   | .min| .max=>true
   | .len=>(match c.argTypes.toList with
    | [t]=>(match P.underlying t with|some d=>not (Nat.beq (zn d) 3)|none=>false)
    |_=>false)
   |_=>false)
  |_=>false)
 |_=>false
theorem pure_ok{e:FuncId→Option Fun}{op:Op}(vs:List V)(hp:Uw P op=true):Pu (iQ P e op vs):=by
 cases op<;>simp only [Uw] at hp<;>try (cases hp;done)
 case move x=>exact WN fun x=>Pu.ok x
 case assign x=>exact WN fun x=>Pu.ok x
 case pick c a b=>exact aPA fun c a b=>aJN c a b
 case build t ps=>
  intro h g
  simp only [iQ,avX]
  (repeat' split)<;>first|rfl|exact aHA _ _ h g|simp_all [setH]
 case nilCheck x=>exact WN fun x=>ayZ x
 case binOp op t xo yo l=>
  refine aCK fun x y h g=>?_
  simp only [aDv]
  (repeat' split)<;>first|rfl|exact aNz _ _ _ _ _ h g|exact aNy _ _ _ _ h g|simp_all [setH]
 case unOp op t x=>exact WN fun x=>aPB op x
 case convert s d x=>
  refine WN fun x h g=>?_
  simp only [xP]
  split at hp
  ·rename_i h1 h2;simp only [h1,h2];exact aCO _ _ h g
  ·rename_i h1 h2;simp only [h1,h2];exact aCN _ h g
  ·cases hp
 case makeInterface t x=>
  refine WN fun x h g=>?_
  simp only [avV]
  (repeat' split)<;>first|rfl|simp_all [setH,au0]
 case makeFunc fn f c=>
  intro h g
  simp only [iQ,aDu]
  split<;>first|rfl|(unfold fK;cases ahC fn<;>rfl)
 case slice t x lo hi mx=>
  intro h g
  simp only [iQ]
  cases vs with
  |nil=>rfl
  |cons x vs=>
   have fin:∀(lo' hi' mx':Option V),(P.underlying t=none∨∀el,P.underlying t≠some (.slice el)∨(mx'≠none∨lo'=none∨hi'=none))→Pu (UK P t x lo' hi' mx'):=by
    intro lo' hi' mx' hne h g
    simp only [UK]
    split
    ·cases mx' with
     |none=>exact aiv _ _ _ h g
     |some _=>rfl
    ·rename_i el hd
     split
     ·have hq:mx'≠none∨lo'=none∨hi'=none:=by
       rcases hne with q|q
       ·rw [hd] at q;cases q
       ·rcases q el with q|q
        ·exact absurd hd q
        ·exact q
      unfold ahG
      cases mx' with
      |some m=>exact xC _ _ _ _ _ h g
      |none=>
       cases lo' with
       |none=>exact xC _ _ _ _ _ h g
       |some l=>
        cases hi' with
        |none=>exact xC _ _ _ _ _ h g
        |some hh=>rcases hq with q|q|q<;>first|exact absurd rfl q|cases q
     ·rfl
    ·split
     ·exact aiw _ _ _ _ _ _ h g
     ·rfl
    ·rfl
   have hty:P.underlying t=none∨∀el,P.underlying t≠some (.slice el)∨aIb lo hi mx=false:=by
    refine .inr fun el=>?_
    by_cases hd:P.underlying t=some (.slice el)
    ·rw [hd] at hp;exact .inr (by simpa using hp)
    ·exact .inl hd
   have go:∀(lo' hi' mx':Option V),(lo'.isSome=lo.isSome)→(hi'.isSome=hi.isSome)→(mx'.isSome=mx.isSome)→Pu (UK P t x lo' hi' mx'):=by
    intro lo' hi' mx' a b c
    refine fin lo' hi' mx' (hty.imp id fun q el=>(q el).imp id fun q=>?_)
    cases lo'<;>cases hi'<;>cases mx'<;>cases lo<;>cases hi<;>cases mx<;>simp_all [aIb]
   show akr lo vs _=_
   cases lo with
   |none=>
    cases hi with
    |none=>
     cases mx with
     |none=>exact go none none none rfl rfl rfl h g
     |some m=>cases vs with
      |nil=>rfl
      |cons a vs=>exact go none none (some a) rfl rfl rfl h g
    |some i=>cases vs with
     |nil=>rfl
     |cons a vs=>cases mx with
      |none=>exact go none (some a) none rfl rfl rfl h g
      |some m=>cases vs with
       |nil=>rfl
       |cons b vs=>exact go none (some a) (some b) rfl rfl rfl h g
   |some l=>cases vs with
    |nil=>rfl
    |cons a vs=>cases hi with
     |none=>cases mx with
      |none=>exact go (some a) none none rfl rfl rfl h g
      |some m=>cases vs with
       |nil=>rfl
       |cons b vs=>exact go (some a) none (some b) rfl rfl rfl h g
     |some i=>cases vs with
      |nil=>rfl
      |cons b vs=>cases mx with
       |none=>exact go (some a) (some b) none rfl rfl rfl h g
       |some m=>cases vs with
        |nil=>rfl
        |cons c vs=>exact go (some a) (some b) (some c) rfl rfl rfl h g
 case fieldAddr t x n=>
  refine WN fun x h g=>?_
  simp only [avW]
  (repeat' split)<;>first|rfl|exact auG _ _ h g
 case indexAddr t x i=>
  refine aCK fun x y h g=>?_
  simp only [abb]
  (repeat' split)<;>first|rfl|exact aJO _ _ _ h g|exact aJP _ _ _ _ h g
 case index t x i=>
  refine aCK fun x y h g=>?_
  simp only [avU]
  (repeat' split)<;>first|rfl|exact aEN _ _ h g
 case extract x n=>exact WN fun x=>aCM n x
 case call c=>
  obtain⟨callee,args,argTypes⟩:=c
  cases callee with
  |invoke rc m=>cases hp
  |value f=>cases hp
  |builtin b=>
   intro h g
   simp only [iQ,atQ,aaP]
   cases b<;>simp only [] at hp⊢<;>try (cases hp;done)
   case len=>
    split at hp
    ·rename_i t ht
     split at hp
     ·rename_i d hd
      rw [ht]
      rcases vs with _|⟨x,_|⟨y,l⟩⟩<;>try rfl
      simp only [hd]
      have hk:Nat.beq (zn d) 3=false:=by simpa using hp
      cases d<;>first|exact aNw _ _ hk h g|rfl
     ·cases hp
    ·cases hp
   all_goals (rcases vs with _|⟨x,_|⟨y,_|⟨z,l⟩⟩⟩<;>first|rfl|exact aNu _ _ h g|exact aNv _ _ h g)
def amI(P:Program)(op:Op):Bool:=match op with
 | .slice .. =>true
 | .load .. =>true
 | .lookup .. =>true
 | .convert s d _=>(match P.underlying s,P.underlying d with
  |some (.slice _),some .string=>true
  |_,_=>false)
 | .call c=>(match c.callee with
  | .builtin b=>(match b with
   | .len=>true
   |_=>false)
  |_=>false)
 |_=>Uw P op
theorem Pu.same{m:Hp→R V}(hm:Pu m){h h':Hp}{v:V}(e:m h=.ok v h'):h'=h:=by
 have:=hm h h
 rw [e] at this
 cases this;rfl
theorem aC9{a:V}{h h':Hp}{v:V}(e:aF a h=.ok v h'):h'=h:=by
 obtain⟨i,o,rfl,e⟩:=lU e
 obtain⟨w,cs,_,e⟩:=gK e
 split at e<;>cases e;rfl
theorem aC8{n:Nat}{a:V}{h h':Hp}{v:V}(e:bW n a h=.ok v h'):h'=h:=by
 obtain⟨i,o,rfl,e⟩:=lU e
 obtain⟨w,cs,_,e⟩:=gK e
 split at e<;>cases e;rfl
theorem as3{a:V}{h h':Hp}{v:V}(e:kY a h=.ok v h'):h'=h:=by
 unfold kY at e
 split at e
 ·cases e;rfl
 ·cases e;rfl
 ·obtain⟨w,cs,_,e⟩:=gK e
  split at e
  ·split at e<;>cases e;rfl
  ·cases e
 ·cases e
theorem aE2{k:Nat}{a:V}{h h':Hp}{v:V}(e:aY k a h=.ok v h'):h'=h:=by
 unfold aY at e
 split at e
 ·unfold aCX at e
  split at e<;>first|(cases e;rfl)|cases e|skip
  split at e<;>first|(cases e;rfl)|cases e
 ·cases e
theorem aaU{ok b:Bool}{v r:V}{h h':Hp}(e:ahO ok v b h=.ok r h'):h'=h:=by
 unfold ahO at e
 cases ok<;>cases e<;>rfl
theorem ay4{ok:Bool}{z m x r:V}{h h':Hp}(e:Y5 ok z m x h=.ok r h'):h'=h:=by
 unfold Y5 at e
 split at e
 ·exact aaU e
 ·split at e
  ·unfold am0 at e
   split at e
   ·split at e
    ·exact aaU e
    ·exact aaU e
   ·cases e
  ·cases e
 ·cases e
theorem avS{t:TypeId}{ok:Bool}{m x r:V}{h h':Hp}(e:Zk P t ok m x h=.ok r h'):h'=h:=by
 unfold Zk at e
 split at e
 ·split at e
  ·split at e
   ·split at e
    ·unfold Y6 at e
     split at e
     ·exact ay4 e
     ·cases e
    ·cases e
   ·cases e
  ·cases e
 ·cases e
theorem aeR{x:Option Operand}{vs:List V}{k:Option V→List V→R V}{h':Hp}{v:V}(e:akr x vs k=.ok v h'):∃u us,k u us=.ok v h':=by
 unfold akr at e
 cases x with
 |none=>exact⟨_,_,e⟩
 |some o=>cases vs with
  |nil=>cases e
  |cons a vs=>exact⟨_,_,e⟩
theorem ant{x:V}{k:Nat→R V}{h':Hp}{v:V}(e:lV x k=.ok v h'):∃n,k n=.ok v h':=by
 obtain⟨_,n,_,e1⟩:=pJ e
 exact⟨n,e1⟩
theorem aIa{sz:Nat}{i:Pos}{o u l hh:Nat}{h h':Hp}{v:V}(e:aaH sz i o u l hh h=.ok v h'):h'=h:=by
 obtain⟨w,cs,_,e⟩:=gK e
 split at e
 ·rw [dB,dB] at e;cases e;rfl
 ·cases e
theorem ayV{sz:Nat}{x lo hi:V}{h h':Hp}{v:V}(e:Gp sz x lo hi h=.ok v h'):h'=h:=by
 unfold Gp at e
 split at e
 ·split at e
  ·exact(xC _ _ _ _ _).same e
  ·obtain⟨hh,e⟩:=ant e
   obtain⟨l,e⟩:=ant e
   split at e
   ·exact(xC _ _ _ _ _).same e
   ·exact aIa e
 ·exact(xC _ _ _ _ _).same e
theorem ay7{t:TypeId}{x:V}{lo hi mx:Option V}{h h':Hp}{v:V}(e:UK P t x lo hi mx h=.ok v h'):h'=h:=by
 unfold UK at e
 split at e
 ·split at e
  ·exact(aiv _ _ _).same e
  ·cases e
 ·split at e
  ·unfold ahG at e
   split at e
   ·exact(xC _ _ _ _ _).same e
   ·split at e
    ·split at e
     ·exact ayV e
     ·exact(xC _ _ _ _ _).same e
    ·exact(xC _ _ _ _ _).same e
  ·cases e
 ·split at e
  ·exact(aiw _ _ _ _ _ _).same e
  ·cases e
 ·cases e
theorem aEL{e:FuncId→Option Fun}{op:Op}{vs:List V}{h h':Hp}{v:V}(hp:amI P op=true)(e0:iQ P e op vs h=.ok v h'):h'=h:=by
 by_cases hpu:Uw P op=true
 ·exact(pure_ok vs hpu).same e0
 ·cases op<;>simp only [amI,Uw] at hp hpu<;>try (first|(cases hp;done)|exact absurd rfl hpu|exact absurd hp hpu)
  case slice t x lo hi mx=>
   simp only [iQ] at e0
   split at e0
   ·obtain⟨lo',us,e1⟩:=aeR e0
    obtain⟨hi',us',e2⟩:=aeR e1
    obtain⟨mx',us'',e3⟩:=aeR e2
    exact ay7 e3
   ·cases e0
  case load t x=>
   simp only [iQ] at e0
   obtain⟨x,rfl,e0⟩:=Dc e0
   unfold vT at e0
   split at e0
   ·split at e0
    ·split at e0
     ·exact aC8 e0
     ·cases e0
    ·exact aC9 e0
   ·cases e0
  case lookup t m x ok=>
   simp only [iQ] at e0
   obtain⟨m,x,rfl,e0⟩:=WG e0
   exact avS e0
  case convert s d x=>
   simp only [iQ] at e0
   obtain⟨x,rfl,e0⟩:=Dc e0
   unfold xP at e0
   split at hp
   ·rename_i h1 h2
    simp only [h1,h2] at e0
    split at e0
    ·exact as3 e0
    ·cases e0
   ·cases hp
  case call c=>
   obtain⟨callee,args,argTypes⟩:=c
   cases callee with
   |invoke rc m=>cases hp
   |value f=>cases hp
   |builtin b=>
    cases b<;>simp only [] at hp<;>try (cases hp;done)
    simp only [iQ,atQ] at e0
    rcases hT:argTypes.toList with _|⟨t,_|⟨t2,l⟩⟩<;>rw [hT] at e0<;>rcases vs with _|⟨x,_|⟨y,l2⟩⟩<;>try (cases e0;done)
    simp only [aaP] at e0
    split at e0
    ·cases e0;rfl
    ·exact aE2 e0
    ·cases e0
end
end Go.Vm

namespace Go.Vm
noncomputable section
variable{G:Nat}{M M':Mp}{f b f' b':Hp}{w w':World}
theorem Rel.sub(r:Rel G M f w)(hs:∀i o,b.get i=some o→f.get i=some o)(hn:f.next.nat≤b.next.nat):Rel G M b w:=
 ⟨fun i o hi=>r.ob i o (hs i o hi),fun i hi=>r.fresh i (by omega),fun i j o p L K hn hi hj=>r.sep i j o p L K hn (hs _ _ hi) (hs _ _ hj),r.gl⟩
theorem Rel.frame(r:Rel G M f w)(hs:∀i o,b.get i=some o→f.get i=some o)(hnb:b.next=f.next)(r':Rel G M' b' w')(x:Ext M b w M' b' w')
  (hf:∀i o,f'.get i=some o→b'.get i=some o∨(f.get i=some o∧b.get i=none)) (hn:f'.next=b'.next):
  Rel G M' f' w'∧Ext M f w M' f' w':=by
 have blk:∀i o L,f.get i=some o→b.get i=none→M i=some L→w'.heap[L.blk]?=w.heap[L.blk]?∧L.blk<w.heap.size:=by
  intro i o L hi hb hL
  obtain⟨L',hL',ho⟩:=r.ob i o hi
  rw [hL] at hL';cases hL'
  refine⟨x.same _ ho.lt (fun j p K hj hp hK e=>?_),ho.lt⟩
  have hne:j≠i:=fun e=>by subst e;rw [hb] at hj;cases hj
  exact r.sep j i p o K L hne (hs _ _ hj) hi hp hK hL e
 have loc:∀i o L,f.get i=some o→M' i=some L→M i=some L:=by
  intro i o L hi hL
  obtain⟨L',hL',_⟩:=r.ob i o hi
  have:=x.le _ _ hL'
  rw [hL] at this;cases this;exact hL'
 refine⟨⟨fun i o hi=>?_,fun i hi=>r'.fresh i (by rw [←hn];exact hi),fun i j o p L K hij hi hj ho hL hK=>?_,r'.gl⟩,⟨x.le,by rw [hn,←hnb];exact x.next,x.os,x.tape,x.output,x.size,fun k hk hno=>?_,fun i o L hi ho hL=>?_,fun i hi hfi=>?_,fun i o L hi hL=>?_,fun i hi hM=>x.none i (by rw [hnb];exact hi) hM⟩⟩
 ·rcases hf i o hi with h1|⟨h1,h2⟩
  ·exact r'.ob i o h1
  ·obtain⟨L,hL,ho⟩:=r.ob i o h1
   exact⟨L,x.le _ _ hL,(ho.of_block (blk i o L h1 h2 hL).1).mono x.le⟩
 ·rcases hf i o hi with h1|⟨h1,h2⟩<;>rcases hf j p hj with k1|⟨k1,k2⟩
  ·exact r'.sep i j o p L K hij h1 k1 ho hL hK
  ·have hK':=loc j p K k1 hK
   have hlt:=(blk j p K k1 k2 hK').2
   rcases x.own i o L h1 ho hL with h3|⟨i',o',L',a1,a2,a3,a4⟩
   ·omega
   ·have hne:i'≠j:=fun e=>by subst e;rw [k2] at a1;cases a1
    rw [←a4]
    exact r.sep i' j o' p L' K hne (hs _ _ a1) k1 a2 a3 hK'
  ·have hL':=loc i o L h1 hL
   have hlt:=(blk i o L h1 h2 hL').2
   rcases x.all j p K k1 hK with h3|⟨j',p',K',a1,a3,a4⟩
   ·omega
   ·have hne:i≠j':=fun e=>by subst e;rw [h2] at a1;cases a1
    rw [←a4]
    exact r.sep i j' o p' L K' hne h1 (hs _ _ a1) ho hL' a3
  ·exact r.sep i j o p L K hij h1 k1 ho (loc i o L h1 hL) (loc j p K k1 hK)
 ·exact x.same k hk fun i o L hi ho hL=>hno i o L (hs _ _ hi) ho hL
 ·rcases hf i o hi with h1|⟨h1,h2⟩
  ·rcases x.own i o L h1 ho hL with h3|⟨j,p,K,a1,a2,a3,a4⟩
   ·exact .inl h3
   ·exact .inr ⟨j,p,K,hs _ _ a1,a2,a3,a4⟩
  ·exact .inr ⟨i,o,L,h1,ho,loc i o L h1 hL,rfl⟩
 ·cases hg:f'.get i with
  |none=>rfl
  |some o=>
   rcases hf i o hg with h1|⟨h1,_⟩
   ·have hbi:b.get i=none:=by
     cases hb:b.get i with
     |none=>rfl
     |some q=>have:=hs i q hb;rw [hfi] at this;cases this
    have:=x.old i (by rw [hnb];exact hi) hbi
    rw [h1] at this;cases this
   ·rw [hfi] at h1;cases h1
 ·rcases hf i o hi with h1|⟨h1,h2⟩
  ·rcases x.all i o L h1 hL with h3|⟨j,p,K,a1,a3,a4⟩
   ·exact .inl h3
   ·exact .inr ⟨j,p,K,hs _ _ a1,a3,a4⟩
  ·exact .inr ⟨i,o,L,h1,loc i o L h1 hL,rfl⟩
theorem Rel.putAt{h:Hp}(r:Rel G M h w){p:Pos}(hp:M p=none)(hlt:p.nat<h.next.nat)(o:Ob)(c:Obj)(n:Nat)
  (hw:w'.heap=w.heap.push c) (ho:∀N:Mp,M.le N→jZ N ⟨w.heap.size,0,n⟩ w' o):
  Rel G (M.add p ⟨w.heap.size,0,n⟩) (h.put p (some o)) w':=by
 have hle:=Mp.UG hp ⟨w.heap.size,0,n⟩
 have hold:∀k,k<w.heap.size→w'.heap[k]?=w.heap[k]?:=fun k hk=>by rw [hw,Array.getElem?_push,if_neg (by omega)]
 refine⟨fun i q hi=>?_,fun i hi=>?_,fun i j q s L K hn hi hj hq hL hK=>?_,fun g hg=>?_⟩
 ·by_cases e:i=p
  ·subst e
   rw [h.dW] at hi
   cases hi
   exact⟨_,M.fE _ _,ho _ hle⟩
  ·rw [h.cZ e] at hi
   obtain⟨L,hL,hr⟩:=r.ob i q hi
   exact⟨L,by rw [M.gJ e];exact hL,(hr.of_block (hold _ hr.lt)).mono hle⟩
 ·have hi':h.next.nat≤i.nat:=hi
  have e:i≠p:=fun e=>by rw [e] at hi';omega
  rw [M.gJ e]
  exact r.fresh i hi'
 ·by_cases ei:i=p
  ·subst ei
   rw [M.fE] at hL
   cases hL
   have ej:j≠i:=fun e=>hn e.symm
   rw [M.gJ ej] at hK
   rw [h.cZ ej] at hj
   obtain⟨K',hK',hr⟩:=r.ob j s hj
   rw [hK] at hK';cases hK'
   have:=hr.lt
   show w.heap.size≠K.blk
   omega
  ·rw [M.gJ ei] at hL
   rw [h.cZ ei] at hi
   obtain⟨L',hL',hr⟩:=r.ob i q hi
   rw [hL] at hL';cases hL'
   by_cases ej:j=p
   ·subst ej
    rw [M.fE] at hK
    cases hK
    have:=hr.lt
    show L.blk≠w.heap.size
    omega
   ·rw [M.gJ ej] at hK
    rw [h.cZ ej] at hj
    exact r.sep i j q s L K hn hi hj hq hL hK
 ·obtain⟨n',hg'⟩:=r.gl g hg
  exact⟨n',hle _ _ hg'⟩
theorem Ext.putAt{M₀:Mp}{h₀ h:Hp}{w₀:World}(x:Ext M₀ h₀ w₀ M h w){p:Pos}(hp:M p=Option.none)(hge:h₀.next.nat≤p.nat)(o:Ob)(c:Obj)(n:Nat)
  (hw:w'.heap=w.heap.push c) (hos:w'.os=w.os) (ht:w'.tape=w.tape) (hout:w'.output=w.output):
  Ext M₀ h₀ w₀ (M.add p ⟨w.heap.size,0,n⟩) (h.put p (some o)) w':=by
 have hle:=Mp.UG hp ⟨w.heap.size,0,n⟩
 have hsz:w'.heap.size=w.heap.size+1:=by rw [hw];simp
 have hold:∀k,k<w.heap.size→w'.heap[k]?=w.heap[k]?:=fun k hk=>by rw [hw,Array.getElem?_push,if_neg (by omega)]
 have hs:=x.size
 refine⟨Mp.le_trans x.le hle,x.next,hos.trans x.os,ht.trans x.tape,hout.trans x.output,by omega,fun k hk hno=>?_,fun i q L hi hq hL=>?_,fun i hi hn=>?_,fun i q L hi hL=>?_,fun i hi hn=>?_⟩
 ·rw [hold k (by omega)]
  exact x.same k hk hno
 ·by_cases e:i=p
  ·subst e;rw [M.fE] at hL;cases hL;exact .inl hs
  ·rw [h.cZ e] at hi;rw [M.gJ e] at hL;exact x.own i q L hi hq hL
 ·have e:i≠p:=fun e=>by subst e;omega
  rw [h.cZ e];exact x.old i hi hn
 ·by_cases e:i=p
  ·subst e;rw [M.fE] at hL;cases hL;exact .inl hs
  ·rw [h.cZ e] at hi;rw [M.gJ e] at hL;exact x.all i q L hi hL
 ·have e:i≠p:=fun e=>by subst e;omega
  rw [M.gJ e];exact x.none i hi hn
theorem Rel.congr{h g:Hp}(r:Rel G M h w)(hg:∀i,g.get i=h.get i)(hn:g.next=h.next):Rel G M g w:=
 r.sub (fun i o hi=>by rw [←hg];exact hi) (by rw [hn];exact Nat.le_refl _)
theorem Ext.congr{M₀:Mp}{h₀ h g:Hp}{w₀:World}(x:Ext M₀ h₀ w₀ M h w)(hg:∀i,g.get i=h.get i)(hn:g.next=h.next):Ext M₀ h₀ w₀ M g w:=
 ⟨x.le,by rw [hn];exact x.next,x.os,x.tape,x.output,x.size,x.same,fun i o L hi=>x.own i o L (by rw [←hg];exact hi),fun i hi h0=>by rw [hg];exact x.old i hi h0,
  fun i o L hi=>x.all i o L (by rw [←hg];exact hi),x.none⟩
def Uu(h:Hp):List (Pos×Ob)→Hp
 | []=>h
 |(p,o)::l=>(Uu h l).put p (some o)
theorem ayY(h:Hp)(l:List (Pos×Ob)):(Uu h l).next=h.next:=by
 induction l with
 |nil=>rfl
 |cons x l ih=>exact ih
theorem apJ{h:Hp}{l:List (Pos×Ob)}{i:Pos}(hn:∀o,(i,o)∉l):(Uu h l).get i=h.get i:=by
 induction l with
 |nil=>rfl
 |cons x l ih=>
  have hne:i≠x.1:=fun e=>hn x.2 (by rw [e];simp)
  show((Uu h l).put x.1 (some x.2)).get i=_
  rw [Hp.cZ _ hne]
  exact ih fun o ho=>hn o (by simp [ho])
theorem apK{h:Hp}{l:List (Pos×Ob)}{i:Pos}{o:Ob}(hm:(i,o)∈l)(hd:∀o',(i,o')∈l→o'=o):(Uu h l).get i=some o:=by
 induction l with
 |nil=>cases hm
 |cons x l ih=>
  show((Uu h l).put x.1 (some x.2)).get i=_
  by_cases e:i=x.1
  ·subst e
   rw [Hp.dW]
   rw [hd x.2 (by simp)]
  ·rw [Hp.cZ _ e]
   refine ih ?_ (fun o' ho=>hd o' (by simp [ho]))
   rcases List.mem_cons.1 hm with rfl|hm
   ·exact absurd rfl e
   ·exact hm
end
end Go.Vm

namespace Go.Vm
noncomputable section
theorem auj:∀{s t:List Nat},jX s t=true→s=t
 | [],[],_=>rfl
 | [],b::y,h=>by cases h
 |a::x,[],h=>by cases h
 |a::x,b::y,h=>by
  simp only [jX] at h
  split at h
  ·rename_i hb;rw [Nat.eq_of_beq_eq_true hb,auj h]
  ·cases h
theorem aH0{a b:Int}(h:oq a b=true):a=b:=by rw [A7] at h;simpa using h
def eqV(a:V):V→Bool:=
 V.rec (motive:=fun _=>V→Bool)
  (fun b x=>match x with| .bool c=>(match b,c with|true,true=>true|false,false=>true|_,_=>false)|_=>false)
  (fun k n x=>match x with| .int k' n'=>(match Nat.beq (kix k) (kix k') with|true=>oq n n'|false=>false)|_=>false)
  (fun s x=>match x with| .str t=>jX s t|_=>false)
  (fun i o x=>match x with| .ptr j p=>(match i.eq j with|true=>Nat.beq o p|false=>false)|_=>false)
  (fun x=>match x with| .bY=>true|_=>false)
  (fun i o n c x=>match x with
   | .slice j p m d=>(match i.eq j,Nat.beq o p,Nat.beq n m with
    |true,true,true=>(match c,d with| .kn a,.kn b=>Nat.beq a b| .un a,.un b=>Nat.beq a b|_,_=>false)
    |_,_,_=>false)
   |_=>false)
  (fun x=>match x with| .aG=>true|_=>false)
  (fun x=>match x with| .emp=>true|_=>false)
  (fun i x=>match x with| .map j=>i.eq j|_=>false)
  (fun x=>match x with| .jQ=>true|_=>false)
  (fun _ _ _ _ _ _=>false)
  (fun x=>match x with| .gG=>true|_=>false)
  (fun t _ ih x=>match x with| .iface u w=>(match Nat.beq t u with|true=>ih w|false=>false)|_=>false)
  (fun x=>match x with| .oJ=>true|_=>false)
  (fun _ ih x=>match x with| .agg w=>ih w|_=>false)
  (fun _ ih x=>match x with| .tuple w=>ih w|_=>false)
  (fun x=>match x with| .nil=>true|_=>false)
  (fun _ _ ih1 ih2 x=>match x with| .cons u w=>(match ih1 u with|true=>ih2 w|false=>false)|_=>false)
  a
theorem uf:∀{a b:V},eqV a b=true→a=b:=by
 intro a
 induction a with
 |bool b=>intro x h;cases x<;>first|(cases h;done)|(rename_i c;cases b<;>cases c<;>first|rfl|cases h)
 |int k n=>
  intro x h
  cases x<;>try (cases h;done)
  rename_i k' n'
  simp only [eqV] at h
  split at h
  ·rename_i hk
   rw [KD hk,aH0 h]
  ·cases h
 |str s=>intro x h;cases x<;>first|(cases h;done)|(rename_i t;rw [auj h])
 |ptr i o=>
  intro x h
  cases x<;>try (cases h;done)
  simp only [eqV] at h
  split at h
  ·rename_i hi;rw [Pos.eq_iff.1 hi,Nat.eq_of_beq_eq_true h]
  ·cases h
 |bY=>intro x h;cases x<;>first|(cases h;done)|rfl
 |slice i o n c=>
  intro x h
  cases x<;>try (cases h;done)
  simp only [eqV] at h
  split at h
  ·rename_i h1 h2 h3
   rw [Pos.eq_iff.1 h1,Nat.eq_of_beq_eq_true h2,Nat.eq_of_beq_eq_true h3]
   split at h
   ·rw [Nat.eq_of_beq_eq_true h]
   ·rw [Nat.eq_of_beq_eq_true h]
   ·cases h
  ·cases h
 |aG=>intro x h;cases x<;>first|(cases h;done)|rfl
 |emp=>intro x h;cases x<;>first|(cases h;done)|rfl
 |map i=>intro x h;cases x<;>first|(cases h;done)|(rw [Pos.eq_iff.1 h])
 |jQ=>intro x h;cases x<;>first|(cases h;done)|rfl
 |func fn a b iha ihb=>intro x h;cases h
 |gG=>intro x h;cases x<;>first|(cases h;done)|rfl
 |iface t v ih=>
  intro x h
  cases x<;>try (cases h;done)
  simp only [eqV] at h
  split at h
  ·rename_i ht;rw [Nat.eq_of_beq_eq_true ht,ih h]
  ·cases h
 |oJ=>intro x h;cases x<;>first|(cases h;done)|rfl
 |agg a ih=>intro x h;cases x<;>first|(cases h;done)|(rw [ih h])
 |tuple a ih=>intro x h;cases x<;>first|(cases h;done)|(rw [ih h])
 |nil=>intro x h;cases x<;>first|(cases h;done)|rfl
 |cons a b iha ihb=>
  intro x h
  cases x<;>try (cases h;done)
  simp only [eqV] at h
  split at h
  ·rename_i ht;rw [iha ht,ihb h]
  ·cases h
end
end Go.Vm
