/- Part of the claim: facts that its last text uses. No conditions. -/
import Derived.Test.YtfaolchpaooboaaGreatDoorJbAE
import Derived.Defers
set_option linter.all false
namespace Go.Vm
noncomputable section
variable{P:Program}{G N:Nat}{M:Mp}{h h':Hp}{w:World}{keep:Nat→Bool}{e:FuncId→Option Fun}
abbrev DV:=FuncId×List V×List V
abbrev DS:=List DV
inductive OutD where
 |nor (fr:F) (h:Hp) (ds:DS)
 |ret (fr:F) (h:Hp) (ds:DS)
 |bad
def wV(D:F→Hp→Out)(fr:F)(h:Hp)(ds:DS):OutD:=match D fr h with
 | .nor fr h=>.nor fr h ds
 | .ret fr h=>.ret fr h ds
 | .ex _ _ _=>.bad
 | .bad=>.bad
def amC(a b:F→Hp→DS→OutD)(fr:F)(h:Hp)(ds:DS):OutD:=match a fr h ds with
 | .nor fr h ds=>b fr h ds
 | .ret fr h ds=>.ret fr h ds
 | .bad=>.bad
def vU(c:Operand)(a b:F→Hp→DS→OutD)(fr:F)(h:Hp)(ds:DS):OutD:=match c with
 | .tmp t=>(match fr.get (Pos.of t) with
  |some v=>(match v with| .bool q=>(match q with|true=>a fr h ds|false=>b fr h ds)|_=>.bad)
  |none=>.bad)
 |_=>.bad
def wP(fr:F):List Operand→Option (List V)
 | []=>some []
 |x::l=>(match x with
  | .tmp t=>(match fr.get (Pos.of t) with|some v=>(match wP fr l with|some vs=>some (v::vs)|none=>none)|none=>none)
  | .const c=>(match const c with|some v=>(match wP fr l with|some vs=>some (v::vs)|none=>none)|none=>none)
  | .func f=>(match wP fr l with|some vs=>some (.func (.func f) .nil .nil::vs)|none=>none)
  | .global _=>none)
def avt(o:Oper)(fr:F):Option DV:=match o.op with
 | .defer c=>(match c.callee with
  | .value f=>(match wP fr (f::c.args.toList) with
   |some vs=>(match vs with
    |g::args=>(match g with
     | .func fn x y=>(match fn with| .func g=>some (g,x.list++args,y.list)|_=>none)
     |_=>none)
    | []=>none)
   |none=>none)
  |_=>none)
 |_=>none
def amF(P:Program)(keep:Nat→Bool)(e:FuncId→Option Fun)(ops:Array Oper)(fr:F)(h:Hp)(ds:DS):OutD:=
 match ops.back? with
 |none=>.bad
 |some o=>(match o.guard,o.dst,ops.toList.dropLast.all (fun o=>match o.guard with|none=>true|some _=>false) with
  |none,none,true=>(match jV P keep e ops ops.toList.dropLast [] fr h with
   | .nor fr h=>(match avt o fr with|some d=>.nor fr h (d::ds)|none=>.bad)
   |_=>.bad)
  |_,_,_=>.bad)
def ax9(o:Oper):Bool:=match o.op with| .defer _=>true|_=>false
def defers:Code→Bool
 | .region _ ops _=>ops.toList.any ax9
 | .seq a b=>defers a||defers b
 | .cond _ a b=>defers a||defers b
 |_=>false
def tV(P:Program)(G N:Nat)(keep:Nat→Bool)(e:FuncId→Option Fun)(pl:aJ)(lf:Nat):Code→F→Hp→DS→OutD
 | .seq a b=>(match defers (.seq a b) with
  |true=>amC (tV P G N keep e pl lf a) (tV P G N keep e pl lf b)
  |false=>wV (fE P G N keep e pl lf (.seq a b)))
 | .cond c a b=>(match defers (.cond c a b) with
  |true=>vU c (tV P G N keep e pl lf a) (tV P G N keep e pl lf b)
  |false=>wV (fE P G N keep e pl lf (.cond c a b)))
 | .region id ops d=>(match defers (.region id ops d) with
  |true=>(match d with|false=>amF P keep e ops|true=>fun _ _ _=>.bad)
  |false=>wV (fE P G N keep e pl lf (.region id ops d)))
 |c=>wV (fE P G N keep e pl lf c)
def Tv(M:Mp)(x:DV)(d:Deferred):Prop:=
 ∃xs ys,aX M x.2.1 xs∧aX M x.2.2 ys∧d={target:=.fn (.func x.1) ys.toArray,args:=xs.toArray}
def ni(M:Mp):DS→List Deferred→Prop
 | [],Df=>Df= []
 |x::ds,Df=>∃d Ds,Tv M x d∧ni M ds Ds∧Df=d::Ds
theorem Tv.mono{M N:Mp}(hle:M.le N){x:DV}{d:Deferred}(hd:Tv M x d):Tv N x d:=by
 obtain⟨xs,ys,h1,h2,h3⟩:=hd
 exact⟨xs,ys,h1.mono hle,h2.mono hle,h3⟩
theorem ni.mono{M N:Mp}(hle:M.le N):∀{ds:DS} {Df:List Deferred},ni M ds Df→ni N ds Df
 | [],_,h=>h
 |_::_,_,⟨d,Ds,h1,h2,h3⟩=>⟨d,Ds,h1.mono hle,ni.mono hle h2,h3⟩
def ng(keep:Nat→Bool)(G N:Nat)(M:Mp)(h:Hp)(w:World):OutD→Exit→Act→World→Prop
 | .nor fr h' ds,.normal,a,w'=>∃M' Df,ni M' ds Df∧At keep G N Df M' fr h' a w'∧Ext M h w M' h' w'
 | .ret fr h' ds,.ret,a,w'=>∃M' Df,ni M' ds Df∧At keep G N Df M' fr h' a w'∧Ext M h w M' h' w'
 |_,_,_,_=>False
theorem ng.trans{M':Mp}{w':World}(x:Ext M h w M' h' w'){o:OutD}{e:Exit}{a:Act}{v:World}(q:ng keep G N M' h' w' o e a v):ng keep G N M h w o e a v:=by
 cases o<;>cases e<;>simp only [ng] at q⊢
 ·obtain⟨M2,Df,d,p,y⟩:=q;exact⟨M2,Df,d,p,x.trans y⟩
 ·obtain⟨M2,Df,d,p,y⟩:=q;exact⟨M2,Df,d,p,x.trans y⟩
def dW(P:Program)(keep:Nat→Bool)(G N:Nat)(c:Code)(T:F→Hp→DS→OutD):Prop:=
 ∀ds Df fr h M a w,T fr h ds≠ .bad→ni M ds Df→At keep G N Df M fr h a w→c.wp P (ng keep G N M h w (T fr h ds)) a w
theorem dW.lift{c:Code}{D:F→Hp→Out}(hc:bG P keep G N c D):dW P keep G N c (wV D):=by
 intro ds Df fr h M a w hne hds at_
 unfold wV at hne⊢
 cases e1:D fr h with
 |bad=>rw [e1] at hne;exact absurd rfl hne
 |ex i fr1 h1=>rw [e1] at hne;exact absurd rfl hne
 |nor fr1 h1=>
  refine wp_mono (hc.wp Df fr h M a w (by rw [e1];simp) at_) ?_
  intro x a' w' q
  rw [e1] at q
  cases x<;>simp only [eP] at q
  obtain⟨M',p,y⟩:=q
  exact⟨M',Df,hds.mono y.le,p,y⟩
 |ret fr1 h1=>
  refine wp_mono (hc.wp Df fr h M a w (by rw [e1];simp) at_) ?_
  intro x a' w' q
  rw [e1] at q
  cases x<;>simp only [eP] at q
  obtain⟨M',p,y⟩:=q
  exact⟨M',Df,hds.mono y.le,p,y⟩
theorem dW.seq{c d:Code}{A B:F→Hp→DS→OutD}(hc:dW P keep G N c A)(hd:dW P keep G N d B):dW P keep G N (.seq c d) (amC A B):=by
 intro ds Df fr h M a w hne hds at_
 refine wp_seq ?_
 unfold amC at hne⊢
 cases e1:A fr h ds with
 |bad=>rw [e1] at hne;exact absurd rfl hne
 |nor fr1 h1 ds1=>
  rw [e1] at hne
  refine wp_mono (hc ds Df fr h M a w (by rw [e1];simp) hds at_) ?_
  intro x a' w' q
  rw [e1] at q
  cases x<;>simp only [ng] at q
  obtain⟨M',Df',hds',at',hx⟩:=q
  exact wp_mono (hd ds1 Df' fr1 h1 M' a' w' hne hds' at') fun x a w q=>ng.trans hx q
 |ret fr1 h1 ds1=>
  refine wp_mono (hc ds Df fr h M a w (by rw [e1];simp) hds at_) ?_
  intro x a' w' q
  rw [e1] at q
  cases x<;>simp only [ng] at q
  exact q
theorem dW.cond{x:Operand}{c d:Code}{A B:F→Hp→DS→OutD}(hc:dW P keep G N c A)(hd:dW P keep G N d B):dW P keep G N (.cond x c d) (vU x A B):=by
 intro ds Df fr h M a w hne hds at_
 cases x with
 |tmp t=>
  simp only [vU] at hne⊢
  cases hv:fr.get (Pos.of t) with
  |none=>rw [hv] at hne;exact absurd rfl hne
  |some v=>
   rw [hv] at hne
   cases v<;>try exact absurd rfl hne
   rename_i q
   have hb:=(at_.fr t _ hv).2.bool
   cases q
   ·exact wp_cond_false (show a.eval (.tmp t)=.bool false from hb) (hd ds Df fr h M a w hne hds at_)
   ·exact wp_cond_true (show a.eval (.tmp t)=.bool true from hb) (hc ds Df fr h M a w hne hds at_)
 |const c=>exact absurd rfl hne
 |global g=>exact absurd rfl hne
 |func f=>exact absurd rfl hne
theorem avN{Df:List Deferred}(hE:∀f F,e f=some F→aj P G f F){ops:Array Oper}(hops:∀i,∀o,ops[i]?=some o→i+1<ops.size→iM G N o=true){fr':F}{h':Hp}{Q:Exit→Act→World→Prop}{l2:List Nat}:
  ∀(l:List Nat) (env:Env) (fr:F) (h:Hp) (M:Mp) (a:Act) (w:World),(∀i∈l,i+1<ops.size)→(∀i∈l,∀o,ops[i]?=some o→o.guard=none)→At keep G N Df M fr h a w→iH M env a→
   jV P keep e ops (l.filterMap (ops[·]?)) env fr h=.nor fr' h'→
   (∀a' w' M',At keep G N Df M' fr' h' a' w'→Ext M h w M' h' w'→wpOps P ops Q l2 a' w')→wpOps P ops Q (l++l2) a w:=by
 intro l
 induction l with
 |nil=>
  intro env fr h M a w _ _ at_ _ e0 hK
  simp only [List.filterMap_nil,jV] at e0
  cases e0
  exact hK a w M at_ (.refl at_.rel)
 |cons i l ih=>
  intro env fr h M a w hl hg at_ he e0 hK
  have hi:i<ops.size:=by have:=hl i (by simp);omega
  have ho:ops[i]?=some ops[i]:=Array.getElem?_eq_getElem hi
  rw [List.cons_append,wpOps_cons]
  unfold wpOp
  simp only [ho]
  rw [List.filterMap_cons_some ho] at e0
  have hgi:=hg i (by simp) _ ho
  unfold jV at e0
  simp only [hgi] at e0
  have hw:Region.wanted ops[i] (yielded ops a.tmps)=true:=by simp [Region.wanted,hgi]
  simp only [hw,if_true]
  refine .inl (zY hE (hops i _ ho (hl i (by simp))) (by simp) at_ he e0 ?_)
  intro env' fr2 h2 a' w' M' e1 at1 he1 hx
  exact ih env' fr2 h2 M' a' w' (fun j hj=>hl j (by simp [hj])) (fun j hj=>hg j (by simp [hj])) at1 he1 e1 fun a2 w2 M2 at2 hx2=>hK a2 w2 M2 at2 (hx.trans hx2)
theorem sF{Df:List Deferred}{fr:F}{a:Act}(at_:At keep G N Df M fr h a w):∀{l:List Operand} {vs:List V},wP fr l=some vs→aX M vs (l.map a.eval)
 | [],vs,e0=>by cases e0;rfl
 |x::l,vs,e0=>by
  simp only [wP] at e0
  split at e0
  ·rename_i t
   split at e0
   ·rename_i v hv
    split at e0
    ·rename_i us hus
     cases e0
     exact⟨_,_,(at_.fr t v hv).2,sF at_ hus,rfl⟩
    ·cases e0
   ·cases e0
  ·rename_i c
   split at e0
   ·rename_i v hv
    split at e0
    ·rename_i us hus
     cases e0
     exact⟨_,_,o8 hv M,sF at_ hus,rfl⟩
    ·cases e0
   ·cases e0
  ·rename_i f
   split at e0
   ·rename_i us hus
    cases e0
    exact⟨_,_,⟨rfl,.func f,[],[],rfl,⟨rfl,rfl⟩,rfl,rfl,rfl⟩,sF at_ hus,rfl⟩
   ·cases e0
  ·cases e0
theorem dW.region(hE:∀f F,e f=some F→aj P G f F){id:Nat}{ops:Array Oper}(hops:∀i,∀o,ops[i]?=some o→i+1<ops.size→iM G N o=true):dW P keep G N (.region id ops false) (amF P keep e ops):=by
 intro ds Df fr h M a w hne hds at_
 refine wp_region ?_
 unfold amF at hne⊢
 split at hne
 ·exact absurd rfl hne
 ·rename_i o hback
  have hsz:0<ops.size:=by
   rcases Nat.eq_zero_or_pos ops.size with h0|h0
   ·rw [Array.size_eq_zero_iff.1 h0] at hback
    simp at hback
   ·exact h0
  have hlast:ops[ops.size - 1]?=some o:=by rw [←hback,Array.back?_eq_getElem?]
  split at hne
  ·rename_i hg hd hall
   split at hne
   ·rename_i fr1 h1 hreg
    split at hne
    ·rename_i d hdef
     have hrange:List.range ops.size=List.range (ops.size - 1)++ [ops.size - 1]:=by
      conv=>lhs;rw [show ops.size=(ops.size - 1)+1 by omega]
      rw [List.range_succ]
     rw [hrange]
     have hpre:(List.range (ops.size - 1)).filterMap (ops[·]?)=ops.toList.dropLast:=by
      have:∀n,n≤ops.size→(List.range n).filterMap (ops[·]?)=ops.toList.take n:=by
       intro n
       induction n with
       |zero=>intro _;rfl
       |succ n ih=>
        intro hn
        rw [List.range_succ,List.filterMap_append,ih (by omega)]
        have hlt:n<ops.size:=by omega
        rw [List.filterMap_cons_some (Array.getElem?_eq_getElem hlt),List.filterMap_nil,List.take_add_one,List.getElem?_eq_getElem (by simpa using hlt)]
        simp
      rw [this _ (by omega),List.dropLast_eq_take]
      simp
     refine avN hE hops (List.range (ops.size - 1)) [] fr h M a w (fun i hi=>by have:=List.mem_range.1 hi;omega) (fun i hi o' ho'=>?_) at_ (iH.nil M a) (by rw [hpre];exact hreg) ?_
     ·have hi':=List.mem_range.1 hi
      have hm:o'∈ops.toList.dropLast:=by
       rw [←hpre]
       exact List.mem_filterMap.2 ⟨i,hi,ho'⟩
      have:=List.all_eq_true.1 hall o' hm
      split at this
      ·assumption
      ·cases this
     ·intro a' w' M' at' hx
      rw [wpOps_cons]
      unfold wpOp
      simp only [hlast]
      have hw:Region.wanted o (yielded ops a'.tmps)=true:=by simp [Region.wanted,hg]
      simp only [hw,if_true]
      refine .inl ?_
      obtain⟨dst,op,type,pos,after,guard⟩:=o
      simp only at hg hd
      subst hg;subst hd
      simp only [avt] at hdef
      split at hdef
      ·rename_i c
       obtain⟨callee,args,argTypes⟩:=c
       split at hdef
       ·rename_i f hcal
        have hcal:callee=.value f:=hcal
        subst hcal
        split at hdef
        ·rename_i vs hvs
         split at hdef
         ·rename_i g avs
          split at hdef
          ·rename_i fn x y
           split at hdef
           ·rename_i g
            cases hdef
            obtain⟨cg,cargs,q1,q2,q3⟩:=(sF at' hvs).cons_inv
            rw [List.map_cons] at q1
            cases q1
            obtain⟨g0,xs,ys,hg0,hx',hy',hf⟩:=q2.func
            obtain rfl:g0=.func g:=hg0
            have e2:(args.toList.map a'.eval).toArray=args.map a'.eval:=by apply Array.ext';simp
            have hex:(execOp a'.eval {dst:=none,op:=.defer ⟨.value f,args,argTypes⟩,type:=type,pos:=pos,after:=after,guard:=none}).run P w'=.ok (.defer {target:=.fn (.func g) ys.toArray,args:=xs.toArray++args.map a'.eval}) w':=by
             simp [execOp,resolve,hf,Deferred.ofValue]
            unfold Oper.wp
            rw [hex]
            simp only [Oper.upon_defer]
            have hd:Tv M' (g,x.list++avs,y.list) {target:=.fn (.func g) ys.toArray,args:=xs.toArray++args.map a'.eval}:=
             ⟨xs++args.toList.map a'.eval,ys,hx'.append q3,hy',by rw [←e2];simp⟩
            exact⟨M',_::Df,⟨_,Df,hd,hds.mono hx.le,rfl⟩,⟨at'.rel,at'.fr,at'.size,by rw [show a'.defers=Df from at'.plain];rfl⟩,hx⟩
           ·cases hdef
          ·cases hdef
         ·cases hdef
        ·cases hdef
       ·cases hdef
      ·cases hdef
    ·exact absurd rfl hne
   ·exact absurd rfl hne
  ·exact absurd rfl hne
end
end Go.Vm
