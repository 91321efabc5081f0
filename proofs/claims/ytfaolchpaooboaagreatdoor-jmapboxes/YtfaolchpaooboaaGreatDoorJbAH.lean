/- Part of the claim: facts that its last text uses. No conditions. -/
import Derived.Test.YtfaolchpaooboaaGreatDoorJbAG
import Derived.Laws.LoneSync
import Derived.Recover
set_option linter.all false
namespace Go.Vm
noncomputable section
variable{P:Program}{G:Nat}
def Aj:Fun:=fun args h=>match args with
 | []=>.ok V.undef h
 |_::_=>.bad
def Ai:Fun:=fun args h=>match args with
 | []=>.bad
 |x::l=>(match l with
  | []=>iP x fun _ _=>.ok V.undef h
  |_::_=>.bad)
theorem FV{f:FuncId}{fn:Func}(hf:P.funcs[f]?=some fn)(hname:(fn.name== "runtime.NumGoroutine")=false)(hb:fn.body.isNone=true)(hn:Extern.findNext fn=none)(m:Mark)
  (he:Extern.find fn=some (fun _=>do mark m;pure Extern.Race.none_)):aj P G f Aj:=by
 intro args h r h' M w cargs e hr ha
 unfold Aj at e
 split at e
 ·cases e
  cases(show cargs= [] from ha)
  have:=run_call_mark0 hf hname hb hn m he w
  rw [show([]:List Value).toArray= #[] from rfl,this]
  exact⟨M,gu M,hr,.refl hr⟩
 ·cases e
theorem FU{f:FuncId}{fn:Func}(hf:P.funcs[f]?=some fn)(hname:(fn.name== "runtime.NumGoroutine")=false)(hb:fn.body.isNone=true)(hn:Extern.findNext fn=none)(m:Addr→Mark)
  (he:Extern.find fn=some (Extern.Race.marked m)):aj P G f Ai:=by
 intro args h r h' M w cargs e hr ha
 unfold Ai at e
 split at e
 ·cases e
 ·split at e
  ·rename_i x l
   obtain⟨c,cs,rfl,hx,hcs⟩:=aX.cons_inv ha
   cases(show cs= [] from hcs)
   obtain⟨i,o,rfl,e⟩:=fO e
   obtain⟨L,hL,rfl⟩:=hx.ptr
   cases e
   have:=run_call_marked hf hname hb hn m he (L.at o) w
   rw [show([Value.pointer (some (L.at o))]:List Value).toArray= #[.pointer (some (L.at o))] from rfl,this]
   exact⟨M,gu M,hr,.refl hr⟩
  ·cases e
def levels(base:FuncId→Option Fun)(st:(FuncId→Option Fun)→FuncId→Option Fun):Nat→FuncId→Option Fun
 |0=>base
 |n+1=>st (levels base st n)
theorem iG{base:FuncId→Option Fun}{st:(FuncId→Option Fun)→FuncId→Option Fun}(hb:∀f F,base f=some F→aj P G f F)
  (hs:∀e,(∀f F,e f=some F→aj P G f F)→∀f F,st e f=some F→aj P G f F):∀n f F,levels base st n f=some F→aj P G f F
 |0=>hb
 |n+1=>hs _ (iG hb hs n)
def kQ(e:FuncId→Option Fun)(f:FuncId):Fun:=match e f with
 |some F=>F
 |none=>fun _ _=>.bad
theorem ji{e:FuncId→Option Fun}(he:∀f F,e f=some F→aj P G f F)(f:FuncId):aj P G f (kQ e f):=by
 unfold kQ
 cases h:e f with
 |some F=>exact he f F h
 |none=>intro args h r h' M w cargs e;cases e
theorem Dp:∀f F,(fun _=>none:FuncId→Option Fun) f=some F→iQ P G f F:=fun _ _ h=>by cases h
theorem nS{g:FuncId}{F:Fun}{e:FuncId→Option Fun}(h1:iQ P G g F)(h2:∀f F,e f=some F→iQ P G f F):∀f F',(fun f=>match Nat.beq f g with|true=>some F|false=>e f:FuncId→Option Fun) f=some F'→iQ P G f F':=by
 intro f F' h
 simp only [] at h
 split at h
 ·rename_i hb;cases h;rw [Nat.eq_of_beq_eq_true hb];exact h1
 ·exact h2 f F' h
def aEr:Fun:=fun _ h=>.ok V.undef h
theorem avP{f:FuncId}{fn:Func}{id:Nat}{o0 o1:Oper}{s t:Nat}{A:Code}
  (hf:P.funcs[f]?=some fn) (hn:(fn.name== "runtime.NumGoroutine")=false) (hb:fn.body=some (.seq (.region id #[o0,o1] false) (.cond (.tmp t) A .skip)))
  (g0:o0.guard=none) (d0:o0.dst=some s) (x0:∀ρ w,(execOp ρ o0).run P w=.ok .recover w)
  (g1:o1.guard=none) (d1:o1.dst=some t) (x1:∀ρ:Operand→Value,∀w,(∀c,ρ (.const c)=c)→ρ (.tmp s)=.nilIface→(execOp ρ o1).run P w=.ok (.value (.bool false)) w)
  (hs:s<fn.ntmps) (ht:t<fn.ntmps) (hres:fn.results= #[]):iQ P G f aEr:=by
 intro args h r h' M w cargs e hr ha
 cases e
 refine⟨oL hf hn hb _ _,callsD_of_wpS hf hb fun c0 cs hc=>?_⟩
 have hz:fn.ntmps≤(cargs.toArray++Array.replicate (fn.ntmps - cargs.toArray.size) undef).size:=by simp;omega
 generalize cargs.toArray++Array.replicate (fn.ntmps - cargs.toArray.size) undef=tm at hz
 refine wpS_seq (wpS_region ?_)
 simp only [List.range_succ,show(#[o0,o1]:Array Oper).size=2 from rfl,List.range_zero,List.nil_append,List.cons_append,wpOpsS]
 have hw0:∀y,Region.wanted o0 y=true:=fun y=>by simp [Region.wanted,g0]
 have hw1:∀y,Region.wanted o1 y=true:=fun y=>by simp [Region.wanted,g1]
 have hrec:recoverD (c0::cs)=none:=by simp [recoverD,hc]
 simp only [show(#[o0,o1]:Array Oper)[0]?=some o0 from rfl,show(#[o0,o1]:Array Oper)[1]?=some o1 from rfl,hw0,hw1,if_true,x0,hrec]
 have hv:(({tmps:=tm,defers:= []}:Act).put o0.dst .nilIface).eval (.tmp s)=.nilIface:=by
  rw [d0]
  simp [Act.put,Act.eval,Array.getD_eq_getD_getElem?,show s<tm.size by omega]
 rw [x1 _ _ (fun _=>rfl) hv]
 simp only [Oper.upon_value]
 refine wpS_cond (t:=false) ?_ ?_
 ·rw [d1]
  simp [Act.put,Act.eval,Array.getD_eq_getD_getElem?,d0,show t<tm.size by omega]
 ·refine wpS_of_wp (wp_skip ?_)
  refine⟨?_,c0.mode,rfl,.tuple #[],?_,?_⟩
  ·rw [d0,d1];rfl
  ·rw [rZ,hres]
   simp
  ·exact⟨hc,_,rfl,M,gu M,hr,.refl hr⟩
end
end Go.Vm
