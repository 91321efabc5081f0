/- Part of the value machine, or of a walk by it: lemmas that the claim's last text uses. No conditions. -/
import Derived.Test.YtpgppmioigacoaaGreatDoorSlAC
import Derived.Lib.UnsafeStr
import Derived.Laws.LoneSync
set_option linter.unusedVariables false
set_option linter.unusedSimpArgs false
set_option linter.unnecessarySimpa false
namespace Go.Vm
noncomputable section
variable{P:Program}{G:Nat}{M:Mp}{h h':Hp}{w:World}{r:V}
def nM(d:TypeDesc)(x:V):Bool:=match d,x with
 | .int _,.int _ _=>true
 | .string,.str _=>true
 | .bool,.bool _=>true
 |_,_=>false
def xK(x:V):List (V×V)→Option (Option V)
 | []=>some none
 |(k,v)::l=>(match iR x k with|some b=>(match b with|true=>some (some v)|false=>xK x l)|none=>none)
def akq(x y:V):List (V×V)→Option (List (V×V))
 | []=>some [(x,y)]
 |(k,v)::l=>(match iR x k with
  |some b=>(match b with|true=>some ((x,y)::l)|false=>(match akq x y l with|some r=>some ((k,v)::r)|none=>none))
  |none=>none)
def ahO(ok:Bool)(v:V)(b:Bool)(h:Hp):R V:=match ok with|true=>.ok (.tuple (.cons v (.cons (.bool b) .nil))) h|false=>.ok v h
def am0(ok:Bool)(z x:V)(es:List (V×V))(h:Hp):R V:=match xK x es with
 |some o=>(match o with|some v=>ahO ok v true h|none=>ahO ok z false h)
 |none=>.bad
def Y5(ok:Bool)(z m x:V)(h:Hp):R V:=match m with
 | .jQ=>ahO ok z false h
 | .map i=>(match h.get i with|some (.map es)=>am0 ok z x es h|_=>.bad)
 |_=>.bad
def xG(m x y:V)(h:Hp):R V:=match m with
 | .map i=>(match h.get i with
  |some (.map es)=>(match akq x y es with|some es'=>.ok V.undef (h.put i (some (.map es')))|none=>.bad)
  |_=>.bad)
 |_=>.bad
def aaO(h:Hp):R V:=.ok (.map h.next) (h.new (.map []))
theorem acT{d:TypeDesc}{kt:TypeId}(hk:P.underlying kt=some d){x:V}(hf:nM d x=true)(c:Value)(e:Bool):(Instr.checkKey e 10000 kt c).run P w=.ok () w:=by
 rw [show(10000:Nat)=9999+1 from rfl]
 unfold Instr.checkKey
 rw [Sem.run_bind,run_underlying hk]
 cases d<;>cases x<;>first|(cases hf;done)|rfl
theorem aaV{d:TypeDesc}{x y:V}{c e:Value}{b:Bool}(hf:nM d x=true)(hx:Rp M x c)(hy:Rp M y e)(hb:iR x y=some b):Instr.sameNow d c e=some b:=by
 cases x with
 |int k a=>
  cases y<;>try (cases hb;done)
  rename_i k' a'
  simp only [iR] at hb
  split at hb
  ·rename_i hk
   cases hb
   have hk':=KD hk
   subst hk'
   cases hx.int;cases hy.int
   cases d<;>first|(cases hf;done)|(simp [Instr.sameNow,A7])
  ·cases hb
 |str s=>
  cases y<;>try (cases hb;done)
  rename_i t
  cases hb
  obtain⟨h1,rfl⟩:=hx.str
  obtain⟨h2,rfl⟩:=hy.str
  cases d<;>first|(cases hf;done)|skip
  simp only [Instr.sameNow]
  rw [aaE h1 h2]
  congr 1
  show((bts s).data==(bts t).data)=_
  simp only [bts]
  rw [Bool.eq_iff_iff]
  simp
 |bool a=>
  cases y<;>try (cases hb;done)
  rename_i a'
  cases hx.bool;cases hy.bool
  cases d<;>first|(cases hf;done)|skip
  simp only [Instr.sameNow]
  rw [←hb]
  cases a<;>cases a'<;>rfl
 |_=>cases hb
theorem aDe{d:TypeDesc}{x y:V}{c e:Value}(hf:nM d x=true)(hx:Rp M x c)(hy:Rp M y e)(hb:iR x y=some true):e=c∧(Instr.keyThatStays e c).run P w=.ok c w:=by
 have key:e=c∧Instr.sameBits 10000 c c=true:=by
  rw [show(10000:Nat)=9999+1 from rfl]
  cases x with
  |int k a=>
   cases y<;>try (cases hb;done)
   rename_i k' a'
   simp only [iR] at hb
   split at hb
   ·rename_i hk
    have hk':=KD hk
    subst hk'
    have hb':oq a a'=true:=by simpa using hb
    rw [A7] at hb'
    have hb'':a=a':=by simpa using hb'
    subst hb''
    cases hx.int;cases hy.int
    exact⟨rfl,by simp [Instr.sameBits]⟩
   ·cases hb
  |str s=>
   cases y<;>try (cases hb;done)
   rename_i t
   obtain⟨h1,rfl⟩:=hx.str
   obtain⟨h2,rfl⟩:=hy.str
   have hb':jX s t=true:=by simpa [iR] using hb
   rw [aaE h1 h2] at hb'
   have e1:s.map UInt8.ofNat=t.map UInt8.ofNat:=by simpa using hb'
   have e2:bts t=bts s:=by unfold bts;rw [e1]
   refine⟨by rw [e2],?_⟩
   simp only [Instr.sameBits]
   show((bts s).data==(bts s).data)=true
   simp
  |bool a=>
   cases y<;>try (cases hb;done)
   rename_i a'
   cases hx.bool;cases hy.bool
   cases a<;>cases a'<;>first|(cases hb;done)|exact⟨rfl,by simp [Instr.sameBits]⟩
  |_=>cases hb
 obtain⟨rfl,k⟩:=key
 refine⟨rfl,?_⟩
 unfold Instr.keyThatStays
 rw [if_pos k]
 rfl
theorem amx:∀{s t:List Nat},jX s t=true→s=t
 | [],[],_=>rfl
 | [],_::_,h=>by cases h
 |_::_,[],h=>by cases h
 |a::x,b::y,h=>by
  simp only [jX] at h
  split at h
  ·rename_i hab;rw [Nat.eq_of_beq_eq_true hab,amx h]
  ·cases h
theorem arJ(a b:Nat):Nat.beq a b=Nat.beq b a:=by
 rw [Bool.eq_iff_iff,Nat.beq_eq,Nat.beq_eq];exact eq_comm
theorem amy:∀(s t:List Nat),jX s t=jX t s
 | [],[]=>rfl
 | [],_::_=>rfl
 |_::_,[]=>rfl
 |a::x,b::y=>by simp only [jX];rw [arJ a b,amy x y]
theorem aDg(a b:Int):oq a b=oq b a:=by
 rw [A7,A7,Bool.eq_iff_iff];simp only [beq_iff_eq];exact eq_comm
theorem am3{x y:V}(h:iR x y=some true):x=y:=by
 cases x with
 |int k a=>
  cases y<;>try (cases h;done)
  rename_i k' b
  simp only [iR] at h
  split at h
  ·rename_i hk
   have h':oq a b=true:=by simpa using h
   rw [A7] at h'
   rw [KD hk,show a=b by simpa using h']
  ·cases h
 |str s=>
  cases y<;>try (cases h;done)
  rename_i t
  rw [amx (s:=s) (t:=t) (by simpa [iR] using h)]
 |bool a=>
  cases y<;>try (cases h;done)
  rename_i b
  cases a<;>cases b<;>first|rfl|(cases h;done)
 |_=>cases h
theorem SI{x y:V}{b:Bool}(h:iR x y=some b):iR y x=some b:=by
 cases x with
 |int k a=>
  cases y<;>try (cases h;done)
  rename_i k' a'
  simp only [iR] at h⊢
  rw [arJ]
  split at h
  ·rename_i hk;(try rw [hk]);rw [aDg];exact h
  ·cases h
 |str s=>
  cases y<;>try (cases h;done)
  rename_i t
  simp only [iR] at h⊢
  rw [amy];exact h
 |bool a=>
  cases y<;>try (cases h;done)
  rename_i a'
  simp only [iR] at h⊢
  rw [←h]
  cases a<;>cases a'<;>rfl
 |_=>cases h
theorem jw.get:∀{ps:List (V×V)} {l:List MapEntry} (_:jw M ps l) {n:Nat} {e:MapEntry},l[n]?=some e→∃k v,ps[n]?=some (k,v)∧Rp M k e.key∧Rp M v e.val
 | [],_,h,n,e,he=>by rw [show _= [] from h] at he;simp at he
 |(k,v)::ps,_,⟨e0,es,h,g,x⟩,0,e,he=>by subst x;simp at he;subst he;exact⟨k,v,rfl,h.1,h.2⟩
 |p::ps,_,⟨e0,es,h,g,x⟩,n+1,e,he=>by subst x;simp at he⊢;exact jw.get g he
theorem jw.at:∀{ps:List (V×V)} {l:List MapEntry} (_:jw M ps l) {n:Nat} {k v:V},ps[n]?=some (k,v)→∃e,l[n]?=some e∧Rp M k e.key∧Rp M v e.val
 | [],_,h,n,k,v,he=>by simp at he
 |p::ps,_,⟨e0,es,h,g,x⟩,0,k,v,he=>by subst x;simp at he;subst he;exact⟨e0,rfl,h.1,h.2⟩
 |p::ps,_,⟨e0,es,h,g,x⟩,n+1,k,v,he=>by subst x;simp at he⊢;exact jw.at g he
theorem jw.snoc{x y:V}{e:MapEntry}(h1:Rp M x e.key)(h2:Rp M y e.val):∀{ps:List (V×V)} {l:List MapEntry},jw M ps l→jw M (ps++ [(x,y)]) (l++ [e])
 | [],_,h=>by rw [show _= [] from h];exact⟨e,[],⟨h1,h2⟩,rfl,rfl⟩
 |p::ps,_,⟨e0,es,h,g,z⟩=>by subst z;exact⟨e0,_,h,jw.snoc h1 h2 g,rfl⟩
theorem jw.set{x y:V}{e:MapEntry}(h1:Rp M x e.key)(h2:Rp M y e.val):∀{ps:List (V×V)} {l:List MapEntry} (n:Nat),jw M ps l→jw M (ps.set n (x,y)) (l.set n e)
 | [],_,n,h=>by rw [show _= [] from h];rfl
 |p::ps,_,0,⟨e0,es,h,g,z⟩=>by subst z;exact⟨e,es,⟨h1,h2⟩,g,rfl⟩
 |p::ps,_,n+1,⟨e0,es,h,g,z⟩=>by subst z;exact⟨e0,_,h,jw.set h1 h2 n g,rfl⟩
theorem jw.perm{ps qs:List (V×V)}(hp:List.Perm ps qs):∀{l:List MapEntry},jw M ps l→∃k,List.Perm k l∧jw M qs k:=by
 induction hp with
 |nil=>intro l h;exact⟨l,List.Perm.refl _,h⟩
 |cons p _ ih=>
  rintro l ⟨e,es,h,g,rfl⟩
  obtain⟨k,h1,h2⟩:=ih g
  exact⟨e::k,h1.cons e,e,k,h,h2,rfl⟩
 |swap p q ps=>
  rintro l ⟨e,es,h,⟨f,fs,h',g,rfl⟩,rfl⟩
  exact⟨f::e::fs,List.Perm.swap _ _ _,f,_,h',⟨e,_,h,g,rfl⟩,rfl⟩
 |trans _ _ ih1 ih2=>
  intro l h
  obtain⟨k,h1,h2⟩:=ih1 h
  obtain⟨k',h3,h4⟩:=ih2 h2
  exact⟨k',h3.trans h1,h4⟩
theorem ig.perm{es fs:List (V×V)}(hp:List.Perm es fs)(h:ig es):ig fs:=
 (List.Perm.pairwise_iff (fun{a b}=>SI (x:=a) (y:=b) (b:=false)) (hp.map _)).1 h
theorem ig.sub{es fs:List (V×V)}(hp:List.Sublist es fs)(h:ig fs):ig es:=List.Pairwise.sublist (hp.map _) h
theorem ig.snoc{es:List (V×V)}{x y:V}(h:ig es)(hn:∀(n:Nat) k v,es[n]?=some (k,v)→iR x k=some false):ig (es++ [(x,y)]):=by
 unfold ig
 rw [List.map_append,List.pairwise_append]
 refine⟨h,by simp,fun a ha b hb=>?_⟩
 simp at hb;subst hb
 obtain⟨⟨k,v⟩,hm,rfl⟩:=List.mem_map.1 ha
 obtain⟨n,hn',he⟩:=List.getElem_of_mem hm
 exact SI (hn n k v (by rw [List.getElem?_eq_getElem hn',he]))
theorem ig.last{es:List (V×V)}{x y:V}(h:ig (es++ [(x,y)])):∀(n:Nat) k v,es[n]?=some (k,v)→iR x k=some false:=by
 intro n k v hn
 unfold ig at h
 rw [List.map_append,List.pairwise_append] at h
 exact SI (h.2.2 k (List.mem_map.2 ⟨(k,v),List.mem_of_getElem? hn,rfl⟩) x (by simp))
theorem ig.others{es:List (V×V)}(h:ig es){n:Nat}{x v:V}(hn:es[n]?=some (x,v)):∀(m:Nat) k u,m≠n→es[m]?=some (k,u)→iR x k=some false:=by
 intro m k u hne hm
 unfold ig at h
 rw [List.pairwise_iff_getElem] at h
 obtain⟨ln,en⟩:=List.getElem?_eq_some_iff.1 hn
 obtain⟨lm,em⟩:=List.getElem?_eq_some_iff.1 hm
 rcases Nat.lt_or_ge m n with hlt|hge
 ·have:=h m n (by simpa using lm) (by simpa using ln) hlt
  simp only [List.getElem_map,en,em] at this
  exact SI this
 ·have:=h n m (by simpa using ln) (by simpa using lm) (by omega)
  simpa only [List.getElem_map,en,em] using this
theorem aa1{x v:V}:∀{es:List (V×V)},xK x es=some (some v)→∃n:Nat,es[n]?=some (x,v)∧iR x x=some true∧∀(m:Nat) k u,m<n→es[m]?=some (k,u)→iR x k=some false
 | [],h=>by cases h
 |(k,u)::es,h=>by
  simp only [xK] at h
  split at h
  ·rename_i b hb
   split at h
   ·cases h
    have:=am3 hb
    subst this
    exact⟨0,rfl,hb,fun m k u hm=>by omega⟩
   ·obtain⟨n,h1,h2,h3⟩:=aa1 h
    refine⟨n+1,h1,h2,fun m k' u' hm hk=>?_⟩
    cases m with
    |zero=>simp at hk;obtain⟨rfl,rfl⟩:=hk;exact hb
    |succ m=>exact h3 m k' u' (by omega) hk
  ·cases h
theorem aa2{x:V}:∀{es:List (V×V)},xK x es=some none→∀(m:Nat) k u,es[m]?=some (k,u)→iR x k=some false
 | [],_,m,k,u,hm=>by simp at hm
 |(k0,u0)::es,h,m,k,u,hm=>by
  simp only [xK] at h
  split at h
  ·rename_i b hb
   split at h
   ·cases h
   ·cases m with
    |zero=>simp at hm;obtain⟨rfl,rfl⟩:=hm;exact hb
    |succ m=>exact aa2 h m k u hm
  ·cases h
theorem auD{x y:V}:∀{es:List (V×V)},(∀(m:Nat) k u,es[m]?=some (k,u)→iR x k=some false)→akq x y es=some (es++ [(x,y)])
 | [],_=>rfl
 |(k,u)::es,h=>by
  simp only [akq,h 0 k u rfl,auD (es:=es) fun m k u hm=>h (m+1) k u hm]
  rfl
theorem aAc{x y:V}:∀{es es':List (V×V)},akq x y es=some es'→(xK x es=some none∧es'=es++ [(x,y)])∨(∃(n:Nat) (v:V),xK x es=some (some v)∧es[n]?=some (x,v)∧es'=es.set n (x,y))
 | [],es',h=>by cases h;exact .inl ⟨rfl,rfl⟩
 |(k,u)::es,es',h=>by
  simp only [akq] at h
  split at h
  ·rename_i b hb
   split at h
   ·cases h
    have:=am3 hb
    subst this
    exact .inr ⟨0,u,by simp only [xK,hb],rfl,rfl⟩
   ·split at h
    ·rename_i r hr
     cases h
     rcases aAc hr with⟨h1,h2⟩|⟨n,v,h1,h2,h3⟩
     ·exact .inl ⟨by simp only [xK,hb];exact h1,by rw [h2];rfl⟩
     ·exact .inr ⟨n+1,v,by simp only [xK,hb];exact h1,h2,by rw [h3];rfl⟩
    ·cases h
  ·cases h
theorem aa0{d:TypeDesc}{c:Value}:∀{en:List MapEntry} (i:Nat),(∀e∈en,∃b,Instr.sameNow d c e.key=some b)→∃q,Instr.findNow d c en i=some q∧(match q with
  |none=>∀e∈en,Instr.sameNow d c e.key=some false
  |some (j,u)=>∃n e,j=i+n∧en[n]?=some e∧u=e.val∧Instr.sameNow d c e.key=some true)
 | [],i,_=>⟨none,rfl,fun e he=>by cases he⟩
 |e::en,i,h=>by
  obtain⟨b,hb⟩:=h e (by simp)
  cases b with
  |true=>exact⟨some (i,e.val),by unfold Instr.findNow;rw [hb],0,e,rfl,rfl,rfl,hb⟩
  |false=>
   obtain⟨q,h1,h2⟩:=aa0 (d:=d) (c:=c) (en:=en) (i+1) fun e' he'=>h e' (List.mem_cons_of_mem _ he')
   refine⟨q,by unfold Instr.findNow;rw [hb];exact h1,?_⟩
   cases q with
   |none=>
    intro e' he'
    rcases List.mem_cons.1 he' with rfl|he'
    ·exact hb
    ·exact h2 e' he'
   |some p=>
    obtain⟨j,u⟩:=p
    obtain⟨n,e1,rfl,h3,h4,h5⟩:=h2
    exact⟨n+1,e1,by omega,h3,h4,h5⟩
theorem find_ok{d:TypeDesc}{x:V}{c:Value}{es:List (V×V)}{l en:List MapEntry}{o:Option V}(hf:nM d x=true)(hx:Rp M x c)(hp:List.Perm l en)(hre:jw M es l)(hd:ig es)(e:xK x es=some o):
  ∃q,Instr.findNow d c en 0=some q∧(match o,q with
   |none,none=>True
   |some v,some (j,u)=>Rp M v u∧∃(n:Nat) (e0:MapEntry),es[n]?=some (x,v)∧l[n]?=some e0∧en[j]?=some e0∧e0.key=c∧∀(P:Program) (w:World),(Instr.keyThatStays c c).run P w=.ok c w
   |_,_=>False):=by
 cases o with
 |none=>
  have hall:∀e0∈en,Instr.sameNow d c e0.key=some false:=fun e0 he0=>by
   obtain⟨n,hn,hne⟩:=List.getElem_of_mem (hp.mem_iff.2 he0)
   obtain⟨k,v,h1,h2,h3⟩:=hre.get (n:=n) (e:=e0) (by rw [List.getElem?_eq_getElem hn,hne])
   exact aaV hf hx h2 (aa2 e n k v h1)
  obtain⟨q,h1,h2⟩:=aa0 (d:=d) (c:=c) (en:=en) 0 fun e0 he0=>⟨_,hall e0 he0⟩
  refine⟨q,h1,?_⟩
  cases q with
  |none=>trivial
  |some p=>
   obtain⟨j,u⟩:=p
   obtain⟨n,e1,_,h3,_,h5⟩:=h2
   rw [hall e1 (List.mem_of_getElem? h3)] at h5
   cases h5
 |some v=>
  obtain⟨n,h1,h2,_⟩:=aa1 e
  have hoth:=hd.others h1
  have hall:∀(m:Nat) (e0:MapEntry),l[m]?=some e0→(m=n→Instr.sameNow d c e0.key=some true)∧(m≠n→Instr.sameNow d c e0.key=some false):=fun m e0 hm=>by
   obtain⟨k,v',g1,g2,g3⟩:=hre.get hm
   refine⟨fun hmn=>?_,fun hmn=>aaV hf hx g2 (hoth m k v' hmn g1)⟩
   subst hmn
   rw [h1] at g1;cases g1
   exact aaV hf hx g2 h2
  have hmem:∀e0∈en,∃m:Nat,l[m]?=some e0:=fun e0 he0=>by
   obtain⟨m,hm,hme⟩:=List.getElem_of_mem (hp.mem_iff.2 he0)
   exact⟨m,by rw [List.getElem?_eq_getElem hm,hme]⟩
  obtain⟨q,h3,h4⟩:=aa0 (d:=d) (c:=c) (en:=en) 0 fun e0 he0=>by
   obtain⟨m,hm⟩:=hmem e0 he0
   by_cases hmn:m=n
   ·exact⟨_,(hall m e0 hm).1 hmn⟩
   ·exact⟨_,(hall m e0 hm).2 hmn⟩
  obtain⟨e2,k1,k2,k3⟩:=hre.at h1
  refine⟨q,h3,?_⟩
  cases q with
  |none=>
   have:=h4 e2 (hp.mem_iff.1 (List.mem_of_getElem? k1))
   rw [(hall n e2 k1).1 rfl] at this
   cases this
  |some p=>
   obtain⟨j,u⟩:=p
   obtain⟨m,e1,hj,g1,g2,g3⟩:=h4
   obtain⟨m',hm'⟩:=hmem e1 (List.mem_of_getElem? g1)
   have hmn:m'=n:=by
    by_cases hmn:m'=n
    ·exact hmn
    ·rw [(hall m' e1 hm').2 hmn] at g3;cases g3
   subst hmn
   rw [k1] at hm';cases hm'
   have hk:e2.key=c∧∀(P:Program) (w:World),(Instr.keyThatStays c c).run P w=.ok c w:=by
    have hs:∀(P:Program) (w:World),e2.key=c∧(Instr.keyThatStays e2.key c).run P w=.ok c w:=fun P w=>aDe hf hx k2 h2
    have h0:=(hs default default).1
    exact⟨h0,fun P w=>by have:=(hs P w).2;rw [h0] at this;exact this⟩
   refine⟨by rw [g2];exact k3,m',e2,h1,k1,?_,hk.1,hk.2⟩
   rw [hj,Nat.zero_add];exact g1
theorem set_perm{α:Type}{l m:List α}{n j:Nat}{a b:α}(hp:List.Perm l m)(hl:l[n]?=some a)(hm:m[j]?=some a):List.Perm (l.set n b) (m.set j b):=by
 have key:∀{k:List α} {i:Nat},k[i]?=some a→List.Perm k (a::k.eraseIdx i)∧List.Perm (k.set i b) (b::k.eraseIdx i):=by
  intro k
  induction k with
  |nil=>intro i hi;simp at hi
  |cons x k ih=>
   intro i hi
   cases i with
   |zero=>simp at hi;subst hi;exact⟨List.Perm.refl _,List.Perm.refl _⟩
   |succ i=>
    simp at hi
    obtain⟨h1,h2⟩:=ih hi
    exact⟨(h1.cons x).trans (List.Perm.swap _ _ _),(h2.cons x).trans (List.Perm.swap _ _ _)⟩
 obtain⟨h1,h2⟩:=key hl
 obtain⟨h3,h4⟩:=key hm
 have:List.Perm (l.eraseIdx n) (m.eraseIdx j):=((h1.symm.trans hp).trans h3).cons_inv
 exact h2.trans ((this.cons b).trans h4.symm)
theorem amE{b:Nat}{en:Array MapEntry}{ck:Nat}(o:Obj)(hb:w.heap[b]?=some (.map en ck)):(setObj b o).run P w=.ok () {w with heap:=w.heap.setIfInBounds b o}:=by
 simp [setObj,Sem.run,hb]
theorem aJi{i:Pos}{es:List (V×V)}{L:Loc}(hr:Rel G M h w)(hi:h.get i=some (.map es))(hL:M i=some L):∃en ck,w.heap[L.blk]?=some (.map en ck)∧yI M es en ck:=by
 obtain⟨L',hL',en,ck,hb,hm⟩:=hr.ob i _ hi
 rw [hL] at hL';cases hL'
 exact⟨en,ck,hb,hm⟩
theorem aE0{t kt et:TypeId}{d:TypeDesc}{ie:TypeInfo}{zc:Value}{z m x:V}{cm cx:Value}{ok:Bool}(ht:P.underlying t=some (.map kt et))(hd:P.underlying kt=some d)(hie:P.info? et=some ie)(hzc:ie.zero=some zc)(hz:const zc=some z)
  (hf:nM d x=true) (hr:Rel G M h w) (hm:Rp M m cm) (hx:Rp M x cx) (e:Y5 ok z m x h=.ok r h'):Good P G M h w (Instr.lookup t cm cx ok) r h':=by
 have fin:∀(v:V) (c:Value) (b:Bool),Rp M v c→ahO ok v b h=.ok r h'→(Instr.lookup t cm cx ok).run P w=.ok (if ok then .tuple #[c,.bool b] else c) w→Good P G M h w (Instr.lookup t cm cx ok) r h':=by
  intro v c b hv e hrun
  cases ok with
  |true=>
   cases e
   exact .same hr hrun (auu (vs:= [v,.bool b]) (xs:= [c,.bool b]) ⟨_,_,hv,⟨_,_,zk M b,rfl,rfl⟩,rfl⟩)
  |false=>cases e;exact .same hr hrun hv
 have hzr:(zeroValue et).run P w=.ok zc w:=by simp [zeroValue,typeInfo,hie,hzc]
 have hck:=fun b=>acT (w:=w) hd hf cx b
 unfold Y5 at e
 split at e
 ·cases hm.jQ
  refine fin z zc false (UL hz M) e ?_
  unfold Instr.lookup
  simp [run_underlying ht,hck,Instr.findKey,run_underlying hd,Instr.findNow,hzr]
 ·rename_i i
  obtain⟨L,hL,rfl⟩:=hm.map
  split at e
  ·rename_i es hes
   obtain⟨en,ck,hb,⟨l,hp,hre⟩,hkd,_⟩:=aJi hr hes hL
   have hg:(getObj L.blk).run P w=.ok (.map en ck) w:=by simp [getObj,Sem.run,hb]
   unfold am0 at e
   split at e
   ·rename_i o ho
    obtain⟨q,hq,hqo⟩:=find_ok hf hx hp hre hkd ho
    split at e
    ·rename_i v
     cases q with
     |none=>exact hqo.elim
     |some p=>
      obtain⟨j,u⟩:=p
      refine fin v u true hqo.1 e ?_
      unfold Instr.lookup
      simp [run_underlying ht,hg,hck,Instr.findKey,run_underlying hd,hq]
    ·cases q with
     |some p=>exact hqo.elim
     |none=>
      refine fin z zc false (UL hz M) e ?_
      unfold Instr.lookup
      simp [run_underlying ht,hg,hck,Instr.findKey,run_underlying hd,hq,hzr]
   ·cases e
  ·cases e
 ·cases e
theorem aC5{t:TypeId}(hr:Rel G M h w)(e:aaO h=.ok r h'):Good P G M h w (Instr.makeMap t none) r h':=by
 cases e
 have:=hr.new (.map []) (.map #[] 0) 0 (w':=w.alloc (.map #[] 0)) rfl rfl rfl rfl (fun N _=>⟨#[],0,(by show(w.heap.push _)[w.heap.size]?=_;simp),yI.nil N⟩)
 exact⟨.map (some w.heap.size),_,_,by simp [Instr.makeMap],⟨rfl,_,M.fE _ _,rfl⟩,this.1,this.2.1⟩
theorem avl{t kt et:TypeId}{d:TypeDesc}{m x y:V}{cm cx cy:Value}(ht:P.underlying t=some (.map kt et))(hd:P.underlying kt=some d)
  (hf:nM d x=true) (hr:Rel G M h w) (hm:Rp M m cm) (hx:Rp M x cx) (hy:Rp M y cy) (e:xG m x y h=.ok r h'):
  ∃w',(Instr.mapUpdate t cm cx cy).run P w=.ok () w'∧r=V.undef∧Rel G M h' w'∧Ext M h w M h' w':=by
 unfold xG at e
 split at e
 ·rename_i i
  obtain⟨L,hL,rfl⟩:=hm.map
  split at e
  ·rename_i es hes
   obtain⟨en,ck,hb,⟨l,hp,hre⟩,hkd,hborn,hnd⟩:=aJi hr hes hL
   have hlt:L.blk<w.heap.size:=(Array.getElem?_eq_some_iff.1 hb).1
   have hg:(getObj L.blk).run P w=.ok (.map en ck) w:=by simp [getObj,Sem.run,hb]
   split at e
   ·rename_i es' hes'
    cases e
    have turn:∀(o:Array MapEntry) (ck':Nat),yI M es' o ck'→Rel G M (h.put i (some (.map es'))) {w with heap:=w.heap.setIfInBounds L.blk (.map o ck')}∧Ext M h w M (h.put i (some (.map es'))) {w with heap:=w.heap.setIfInBounds L.blk (.map o ck')}:=by
     intro o ck' hmr
     exact hr.turn hes hL rfl (by simp) (fun k hk=>by simp [Array.getElem?_setIfInBounds_ne (Ne.symm hk)]) rfl rfl rfl ⟨o,ck',by simp [hlt],hmr⟩
    have hck:=acT (w:=w) hd hf cx false
    rcases aAc hes' with⟨hfi,rfl⟩|⟨n,v,hfi,hn,rfl⟩
    ·obtain⟨q,hq,hqo⟩:=find_ok hf hx hp hre hkd hfi
     cases q with
     |some p=>exact hqo.elim
     |none=>
      have hmr:yI M (es++ [(x,y)]) (en.push {key:=cx,val:=cy,born:=ck}) (ck+1):=by
       refine⟨⟨l++ [{key:=cx,val:=cy,born:=ck}],by rw [Array.toList_push];exact hp.append_right _,jw.snoc hx hy hre⟩,hkd.snoc fun n k v hn=>aa2 hfi n k v hn,fun e0 he0=>?_,?_⟩
       ·simp at he0
        rcases he0 with he0|rfl
        ·have:=hborn e0 (by simpa using he0);omega
        ·simp
       ·simp only [Array.toList_push,List.map_append,List.map_cons,List.map_nil]
        rw [List.nodup_append]
        refine⟨hnd,by simp,fun a ha b hb'=>?_⟩
        simp at hb';subst hb'
        obtain⟨e0,he0,rfl⟩:=List.mem_map.1 ha
        have:=hborn e0 he0
        omega
      obtain⟨t1,t2⟩:=turn _ _ hmr
      refine⟨_,?_,rfl,t1,t2⟩
      unfold Instr.mapUpdate
      simp [run_underlying ht,hg,hck,Instr.findKey,run_underlying hd,hq,amE _ hb]
    ·obtain⟨q,hq,hqo⟩:=find_ok hf hx hp hre hkd hfi
     cases q with
     |none=>exact hqo.elim
     |some p=>
      obtain⟨j,u⟩:=p
      obtain⟨_,n',e0,k1,k2,k3,k4,k5⟩:=hqo
      have hnn:n'=n:=by
       by_cases hne:n'=n
       ·exact hne
       ·have:=hkd.others hn n' x v hne k1
        obtain⟨_,_,h2,_⟩:=aa1 hfi
        rw [h2] at this;cases this
      subst hnn
      have hen:en[j]?=some e0:=by rw [←Array.getElem?_toList];exact k3
      have hmr:yI M (es.set n' (x,y)) (en.modify j fun e=>{e with key:=cx,val:=cy}) ck:=by
       have hml:(en.modify j fun e=>{e with key:=cx,val:=cy}).toList=en.toList.set j {e0 with key:=cx,val:=cy}:=by
        rw [Array.toList_modify]
        apply List.ext_getElem?
        intro k
        rw [List.getElem?_modify,List.getElem?_set]
        by_cases hjk:j=k
        ·subst hjk
         have hlt':j<en.toList.length:=(List.getElem?_eq_some_iff.1 k3).1
         simp only [if_true,k3,if_pos hlt'];rfl
        ·simp only [hjk,if_false];cases en.toList[k]?<;>rfl
       have hbm:(en.modify j fun e=>{e with key:=cx,val:=cy}).toList.map (·.born)=en.toList.map (·.born):=by
        rw [Array.toList_modify]
        apply List.ext_getElem?
        intro k
        simp only [List.getElem?_map,List.getElem?_modify]
        split<;>(cases en.toList[k]?<;>rfl)
       have hkeys:(es.set n' (x,y)).map (·.1)=es.map (·.1):=by
        rw [List.map_set]
        apply List.ext_getElem?
        intro k
        rw [List.getElem?_set]
        by_cases hnk:n'=k
        ·subst hnk
         have hlt':n'<(es.map (·.1)).length:=by simpa using (List.getElem?_eq_some_iff.1 hn).1
         rw [if_pos rfl,if_pos hlt',List.getElem?_map,hn];rfl
        ·rw [if_neg hnk]
       refine⟨⟨l.set n' {e0 with key:=cx,val:=cy},by rw [hml];exact set_perm hp k2 k3,jw.set hx hy n' hre⟩,by unfold ig;rw [hkeys];exact hkd,fun e1 he1=>?_,by rw [hbm];exact hnd⟩
       have:e1.born∈en.toList.map (·.born):=by rw [←hbm];exact List.mem_map_of_mem he1
       obtain⟨e2,he2,h3⟩:=List.mem_map.1 this
       rw [←h3];exact hborn e2 he2
      obtain⟨t1,t2⟩:=turn _ _ hmr
      refine⟨_,?_,rfl,t1,t2⟩
      unfold Instr.mapUpdate
      have hks:(((en[j]?).map (·.key)).getD cx)=cx:=by rw [hen];exact k4
      simp only [Sem.run_bind,run_underlying ht,Result.andThen_ok,hg,hck,Instr.findKey,run_underlying hd,hq,Sem.run_pure,hks,k5,amE _ hb]
   ·cases e
  ·cases e
 ·cases e
theorem Rel.perm{i:Pos}{es fs:List (V×V)}(hr:Rel G M (h.put i (some (.map es))) w)(hp:List.Perm es fs):Rel G M (h.put i (some (.map fs))) w:=by
 have key:∀{j:Pos} {o:Ob},(h.put i (some (.map fs))).get j=some o→∃o',(h.put i (some (.map es))).get j=some o'∧o'.own=o.own:=fun{j o} hj=>by
  by_cases e:j=i
  ·subst e
   rw [Hp.dW] at hj;cases hj
   exact⟨_,Hp.dW _ _ _,rfl⟩
  ·rw [Hp.cZ _ e] at hj
   exact⟨o,by rw [Hp.cZ _ e];exact hj,rfl⟩
 refine⟨fun j o hj=>?_,hr.fresh,fun a b o p L K hn ha hb ho hL hK=>?_,hr.gl⟩
 ·by_cases e:j=i
  ·subst e
   rw [Hp.dW] at hj;cases hj
   obtain⟨L,hL,en,ck,hb,⟨l,h1,h2⟩,h3,h4⟩:=hr.ob j _ (Hp.dW _ _ _)
   obtain⟨k,g1,g2⟩:=h2.perm hp
   exact⟨L,hL,en,ck,hb,⟨k,g1.trans h1,g2⟩,h3.perm hp,h4⟩
  ·rw [Hp.cZ _ e] at hj
   exact hr.ob j o (by rw [Hp.cZ _ e];exact hj)
 ·obtain⟨o',ha',hoo⟩:=key ha
  obtain⟨p',hb',_⟩:=key hb
  exact hr.sep a b o' p' L K hn ha' hb' (by rw [hoo];exact ho) hL hK
theorem Ext.perm{M':Mp}{w':World}{h1:Hp}{i:Pos}{es fs:List (V×V)}(x:Ext M h w M' (h1.put i (some (.map es))) w'):Ext M h w M' (h1.put i (some (.map fs))) w':=by
 have key:∀{j:Pos} {o:Ob},(h1.put i (some (.map fs))).get j=some o→∃o',(h1.put i (some (.map es))).get j=some o'∧o'.own=o.own:=fun{j o} hj=>by
  by_cases e:j=i
  ·subst e
   rw [Hp.dW] at hj;cases hj
   exact⟨_,Hp.dW _ _ _,rfl⟩
  ·rw [Hp.cZ _ e] at hj
   exact⟨o,by rw [Hp.cZ _ e];exact hj,rfl⟩
 refine⟨x.le,x.next,x.os,x.tape,x.output,x.size,x.same,fun j o L hj ho hL=>?_,fun j hj hn=>?_,fun j o L hj hL=>?_,x.none⟩
 ·obtain⟨o',hj',hoo⟩:=key hj
  exact x.own j o' L hj' (by rw [hoo];exact ho) hL
 ·have h1:=x.old j hj hn
  by_cases e:j=i
  ·subst e;rw [Hp.dW] at h1;cases h1
  ·rw [Hp.cZ _ e] at h1⊢;exact h1
 ·obtain⟨o',hj',_⟩:=key hj
  exact x.all j o' L hj' hL
end
end Go.Vm

namespace Go.Vm
noncomputable section
variable{P:Program}{G:Nat}{M:Mp}{h h':Hp}{w:World}{r:V}
def auJ(d:TypeDesc):Bool:=match d with| .int _| .string| .bool=>true|_=>false
def Gm(P:Program):List Field→Option (List (TypeDesc×Nat))
 | []=>some []
 |f::l=>(match decide (f.name= "_") with
  |true=>Gm P l
  |false=>(match P.underlying f.type with
   |some d=>(match auJ d,Gm P l with|true,some r=>some ((d,f.offset)::r)|_,_=>none)
   |none=>none))
def NK:List (TypeDesc×Nat)→List V→List V→Option Bool
 | [],_,_=>some true
 |(d,o)::l,xs,ys=>(match AZ o xs,AZ o ys with
  |some x,some y=>(match nM d x,iR x y with
   |true,some b=>(match b with|true=>NK l xs ys|false=>some false)
   |_,_=>none)
  |_,_=>none)
theorem aFg{t:TypeId}{d:TypeDesc}(hd:P.underlying t=some d){x y:V}{c e:Value}{b:Bool}(hf:nM d x=true)(hx:Rp M x c)(hy:Rp M y e)(hb:iR x y=some b)(n:Nat):(Op.equalIn (n+1) t c e).run P w=.ok b w:=by
 have hs:=aaV hf hx hy hb
 cases d<;>cases x<;>first|(cases hf;done)|skip
 all_goals cases y<;>first|(cases hb;done)|skip
 ·cases hx.bool;cases hy.bool
  simp [Instr.sameNow] at hs
  simp [Op.equalIn,run_underlying hd,hs]
 ·cases hx.int;cases hy.int
  rename_i k a k' a'
  simp only [Instr.sameNow] at hs
  split at hs
  ·rename_i hk;subst hk;simp at hs;simp [Op.equalIn,run_underlying hd,hs]
  ·cases hs
 ·cases hx.str.2;cases hy.str.2
  simp only [Instr.sameNow] at hs
  have hs':=Option.some.inj hs
  simp only [Op.equalIn,Sem.run_bind,run_underlying hd,Result.andThen_ok,Sem.run_pure,hs']
theorem aCG{t:TypeId}{d:TypeDesc}(hd:P.underlying t=some d)(hp:auJ d=true):(isAgg t).run P w=.ok false w:=by
 simp only [isAgg,Sem.run_bind,run_underlying hd,Result.andThen_ok]
 cases d<;>first|rfl|cases hp
theorem auL{t:TypeId}{d:TypeDesc}(hd:P.underlying t=some d)(hp:auJ d=true){xs:Array Value}{o:Nat}{c:Value}(hc:xs[o]?=some c):(part t xs o).run P w=.ok c w:=by
 unfold part
 rw [Sem.run_bind,aCG hd hp]
 simp [hc]
def Zi(n:Nat)(xs ys:Array Value)(f:Field)(_:Option Bool×Unit):Sem (ForInStep (Option Bool×Unit)):=
 if f.name≠ "_" then do
  if !(←Op.equalIn (n+1) f.type (←part f.type xs f.offset) (←part f.type ys f.offset)) then pure (ForInStep.done (some false,()))
  else pure (ForInStep.yield (none,()))
 else pure (ForInStep.yield (none,()))
theorem avL{xs ys:List V}{cs ds:List Value}(hx:bZ M xs cs)(hy:bZ M ys ds)(n:Nat):∀{l:List Field} {offs:List (TypeDesc×Nat)} {b:Bool},Gm P l=some offs→NK offs xs ys=some b→
  (forIn l (none,()) (Zi n cs.toArray ds.toArray)).run P w=.ok (if b then(none,()) else(some false,())) w
 | [],offs,b,ho,hb=>by cases ho;cases hb;rfl
 |f::l,offs,b,ho,hb=>by
  unfold Gm at ho
  rw [List.forIn_cons,Sem.run_bind]
  split at ho
  ·rename_i hn
   have hn':f.name= "_" :=by simpa using hn
   have:(Zi n cs.toArray ds.toArray f (none,())).run P w=.ok (ForInStep.yield (none,())) w:=by simp [Zi,hn']
   rw [this]
   exact avL hx hy n ho hb
  ·rename_i hn
   have hn':¬f.name= "_" :=by simpa using hn
   split at ho
   ·rename_i d hd
    split at ho
    ·rename_i r hp hr
     cases ho
     unfold NK at hb
     rw [nK,nK] at hb
     split at hb
     ·rename_i x y hgx hgy
      obtain⟨c,hc,hrc⟩:=hx.get hgx
      obtain⟨e,he,hre⟩:=hy.get hgy
      have p1:(part f.type cs.toArray f.offset).run P w=.ok c w:=auL hd hp (by simpa using hc)
      have p2:(part f.type ds.toArray f.offset).run P w=.ok e w:=auL hd hp (by simpa using he)
      split at hb
      ·rename_i b' hf hk
       have p3:=aFg (w:=w) hd hf hrc hre hk n
       have:(Zi n cs.toArray ds.toArray f (none,())).run P w=.ok (if b' then ForInStep.yield (none,()) else ForInStep.done (some false,())) w:=by
        unfold Zi
        rw [if_pos hn']
        simp only [Sem.run_bind,p1,p2,p3,Result.andThen_ok]
        cases b'<;>rfl
       rw [this]
       cases b' with
       |true=>exact avL hx hy n hr hb
       |false=>cases hb;rfl
      ·cases hb
     ·cases hb
    ·cases ho
   ·cases ho
theorem aFh{t:TypeId}{fs:Array Field}(hd:P.underlying t=some (.struct fs))(hs:P.stoodInHeld t=false){offs:List (TypeDesc×Nat)}(ho:Gm P fs.toList=some offs){xs ys:List V}{cs ds:List Value}(hx:bZ M xs cs)(hy:bZ M ys ds){b:Bool}(hb:NK offs xs ys=some b)(n:Nat):
  (Op.equalIn (n+1+1) t (.agg cs.toArray) (.agg ds.toArray)).run P w=.ok b w:=by
 unfold Op.equalIn
 simp only [Sem.run_bind,run_underlying hd,Result.andThen_ok,run_program,hs]
 simp only [Bool.false_eq_true,if_false]
 rw [←Array.forIn_toList]
 have hl:=avL (w:=w) hx hy n ho hb
 unfold Zi at hl
 rw [Sem.run_bind,hl]
 cases b<;>rfl
def structOf(d:TypeDesc):Option (Array Field):=match d with| .struct fs=>some fs|_=>none
def Zm(P:Program)(op:BinOp)(t:TypeId)(fs:Array Field)(x y:V)(h:Hp):R V:=match x,y with
 | .agg xs,.agg ys=>(match P.stoodInHeld t,P.eqGuardType P.depth t,Gm P fs.toList with
  |false,false,some offs=>(match NK offs xs.list ys.list with
   |some b=>(match op with| .eql=>fM b h| .neq=>fM (not b) h|_=>.bad)
   |none=>.bad)
  |_,_,_=>.bad)
 |_,_=>.bad
theorem aFy{op:BinOp}{t:TypeId}{fs:Array Field}{xo yo:Operand}(hd:P.underlying t=some (.struct fs)){x y:V}{a b:Value}(hr:Rel G M h w)(hx:Rp M x a)(hy:Rp M y b)(e:Zm P op t fs x y h=.ok r h'):
  Good P G M h w (do eqGuard op t xo yo a b;binOp op t a b) r h':=by
 unfold Zm at e
 split at e
 ·rename_i xs ys
  obtain⟨cs,hcs,_,rfl⟩:=hx.agg
  obtain⟨ds,hds,_,rfl⟩:=hy.agg
  split at e
  ·rename_i offs h1 h2 h3
   split at e
   ·rename_i q hq
    have hrun:=aFh (w:=w) hd h1 h3 hcs hds hq 9998
    have heq:(Op.equal t (.agg cs.toArray) (.agg ds.toArray)).run P w=.ok q w:=by
     unfold Op.equal
     rw [show Op.maxDepth=9998+1+1 from rfl];exact hrun
    split at e
    ·rw [gm] at e;cases e
     refine .same hr (c:=.bool q) ?_ (zk M q)
     simp [eqGuard,binOp,h2,heq]
    ·rw [gm] at e;cases e
     refine .same hr (c:=.bool (!q)) ?_ (zk M _)
     simp [eqGuard,binOp,h2,heq]
    ·cases e
   ·cases e
  ·cases e
 ·cases e
end
end Go.Vm

namespace Go.Vm
noncomputable section
variable{P:Program}{G:Nat}{M:Mp}{h h':Hp}{w:World}{r:V}
def apR(x:V)(h:Hp):R V:=match x with
 | .aG=>.ok (.int .i64 (.ofNat 0)) h
 | .slice _ _ _ c=>(match c with| .kn n=>.ok (.int .i64 (.ofNat n)) h| .un _=>.bad)
 |_=>.bad
theorem aFu{t ty el:TypeId}(hd:P.underlying t=some (.slice el)){x:V}{a:Value}(hr:Rel G M h w)(hx:Rp M x a)(e:apR x h=.ok r h'):Good P G M h w (Builtin.cap_ #[t] ty #[a]) r h':=by
 unfold apR at e
 split at e
 ·cases e
  cases hx.aG
  refine .same hr (c:=.int .i64 (.ofNat 0)) ?_ (iq M _ _)
  simp [Builtin.cap_,run_underlying hd,goInt]
 ·rename_i i o n c
  obtain⟨L,k,hL,hc,rfl⟩:=hx.slice
  split at e
  ·rename_i m
   cases e
   obtain⟨rfl,_⟩:=hc
   refine .same hr (c:=.int .i64 (.ofNat k)) ?_ (iq M _ _)
   simp [Builtin.cap_,run_underlying hd,goInt]
  ·cases e
 ·cases e
def amQ(sz:Nat)(d s:V)(h:Hp):R V:=match d with
 | .slice i o n _=>xw sz s h fun m new=>(match Nat.ble m n with
  |true=>(match m with
   |0=>.ok (.int .i64 (.ofNat 0)) h
   |_+1=>dQ h i fun wr cs=>(match wr with
    | .rw t f=>(match jk o new cs with|some cs'=>.ok (.int .i64 (.ofNat m)) (h.put i (some (.cells (.rw t f) cs')))|none=>.bad)
    | .ro=>.bad))
  |false=>.bad)
 |_=>.bad
theorem aus{t t2 ty el:TypeId}{ti:TypeInfo}(hd:P.underlying t=some (.slice el))(hti:P.info? el=some ti){a:Addr}{n k m:Nat}{c:Value}{news:List Value}(hl:(Builtin.lenOf c).run P w=.ok m w)(hf:(Builtin.firstCells ti.size m c).run P w=.ok news.toArray w)(hm:m≤n){w':World}
  (hs:(storeCells a news).run P w=.ok () w'):(Builtin.copy_ #[t,t2] ty #[.slice (some a) n k,c]).run P w=.ok (.int .i64 (.ofNat m)) w':=by
 have hmin:Nat.min m n=m:=Nat.min_eq_left hm
 simp only [Builtin.copy_,List.getElem?_toArray,List.getElem?_cons_zero,List.getElem?_cons_succ,Sem.run_bind,run_underlying hd,Result.andThen_ok,hl,hmin,sizeOf,typeInfo]
 simp [hti,hf,hs,goInt]
theorem aKp{t t2 ty el:TypeId}{ti:TypeInfo}(hd:P.underlying t=some (.slice el))(hti:P.info? el=some ti){x y:V}{a b:Value}(hr:Rel G M h w)(hx:Rp M x a)(hy:Rp M y b)(e:amQ ti.size x y h=.ok r h'):Good P G M h w (Builtin.copy_ #[t,t2] ty #[a,b]) r h':=by
 unfold amQ at e
 split at e
 ·rename_i i o n cap
  obtain⟨L,k,hL,hc,rfl⟩:=hx.slice
  obtain⟨m,new,news,e,hlen,hnew,hnl,hns,hnews⟩:=ait (P:=P) hr hy e
  split at e
  ·rename_i hm
   have hm:=Nat.le_of_ble_eq_true hm
   have hnwl:=hnew.length
   cases m with
   |zero=>
    cases e
    have hnn:news= []:=List.length_eq_zero_iff.1 (by rw [hnwl,hnl];omega)
    subst hnn
    exact .same hr (aus hd hti hlen (hnews w rfl) hm (by simp [storeCells])) (iq M _ _)
   |succ m=>
    simp only [] at e
    obtain⟨wr,cs,hi,e⟩:=gK e
    split at e
    ·split at e
     ·rename_i hp
      cases e
      obtain⟨w',g1,g2,g3⟩:=hr.store (P:=P) (qN hi) hL hp hnew hns
      exact⟨_,w',M,aus hd hti hlen (hnews w rfl) hm g1,iq M _ _,g2,g3⟩
     ·cases e
    ·cases e
  ·cases e
 ·cases e
def Oo(zs:List V)(x:V)(h:Hp):R V:=match x with
 | .aG=>.ok V.undef h
 | .slice i o n _=>(match n with
  |0=>.ok V.undef h
  |m+1=>dQ h i fun wr cs=>(match wr with
   | .rw t f=>(match jk o (times (m+1) zs) cs with|some cs'=>.ok V.undef (h.put i (some (.cells (.rw t f) cs')))|none=>.bad)
   | .ro=>.bad))
 |_=>.bad
theorem aIh{t ty el:TypeId}{ti:TypeInfo}{z:Value}(hd:P.underlying t=some (.slice el))(E:ElemOk P el ti z){zs:List V}(hzs:bZ M zs z.cells.toList){x:V}{a:Value}(hr:Rel G M h w)(hx:Rp M x a)(e:Oo zs x h=.ok r h'):
  Good P G M h w (Builtin.clear_ #[t] ty #[a]) r h':=by
 unfold Oo at e
 split at e
 ·cases e
  cases hx.aG
  exact .same hr (by simp [Builtin.clear_,run_underlying hd];rfl) (pG M)
 ·rename_i i o n cap
  obtain⟨L,k,hL,hc,rfl⟩:=hx.slice
  split at e
  ·cases e
   exact .same hr (by simp [Builtin.clear_,run_underlying hd];rfl) (pG M)
  ·rename_i m
   obtain⟨wr,cs,hi,e⟩:=gK e
   split at e
   ·split at e
    ·rename_i hp
     cases e
     have hzc:(Builtin.zeroCells z.cells (m+1)).toList=(List.replicate (m+1) z.cells.toList).flatten:=by
      unfold Builtin.zeroCells
      exact ET z.cells (m+1) (by rw [E.cells];exact E.size)
     obtain⟨w',g1,g2,g3⟩:=hr.store (P:=P) (qN hi) hL hp (WH hzs (m+1)) (by rw [←hzc];exact P8 E.plain (by rw [E.cells];exact E.size) (m+1))
     refine⟨_,w',M,?_,pG M,g2,g3⟩
     rw [←hzc] at g1
     simp [Builtin.clear_,run_underlying hd,zeroValue,typeInfo,E.info,E.zero,g1]
     rfl
    ·cases e
   ·cases e
 ·cases e
def avf(el:TypeId)(sz bt:Nat)(zs:List V)(s x:V)(h:Hp):R V:=lV x fun n=>
 match Nat.ble (Nat.mul n bt) 140737488355328 with
 |true=>ahZ el sz bt s n (times n zs) h
 |false=>.bad
theorem amk{z:Array Value}(hs:0<z.size)(n:Nat):(Builtin.zeroCells z n).toList=(List.replicate n z.toList).flatten:=by
 unfold Builtin.zeroCells
 exact ET z n hs
theorem aDF{t t2 ty el:TypeId}{kd:IntKind}{ti:TypeInfo}{z:Value}(ht:P.underlying t=some (.slice el))(ht2:P.underlying t2=some (.int kd))(E:ElemOk P el ti z){zs:List V}(hzs:bZ M zs z.cells.toList)
  {s x:V} {a c:Value} (hr:Rel G M h w) (hs:Rp M s a) (hx:Rp M x c) (e0:avf el ti.size ti.bytes zs s x h=.ok r h'):Good P G M h w (Builtin.append_ #[t,t2] ty #[a,c]) r h':=by
 obtain⟨kk,n,rfl,e⟩:=pJ e0
 clear e0
 cases hx.int
 split at e
 rotate_left
 ·cases e
 rename_i hb
 have hb':n*ti.bytes≤140737488355328:=Nat.le_of_ble_eq_true hb
 have hn:n≤n*ti.bytes:=Nat.le_mul_of_pos_right _ E.bytes
 have hw:IntKind.i64.wrap (n:Int)=n:=wrap_in (by omega) (by omega)
 have h0:¬((n:Int)<0):=by omega
 have hc:¬(281474976710656<(n:Int)*(ti.bytes:Int)):=by
  have:((n*ti.bytes:Nat):Int)≤140737488355328:=by omega
  rw [Int.natCast_mul] at this;omega
 have hai:∀(k:IntKind) (w':World),(Go.asInt (Value.int k (n:Int))).run P w'=.ok (n:Int) w':=fun _ _=>rfl
 have hrep:=WH hzs n
 have hzc:=amk (z:=z.cells) (by rw [E.cells];exact E.size) n
 have hlen:(times n zs).length=n*ti.size:=by
  have h1:(Builtin.zeroCells z.cells n).toList.length=n*ti.size:=by simp [Builtin.zeroCells,E.cells]
  rw [←h1,hzc];exact hrep.length.symm
 have hap:(if n*ti.size=0 then(pure #[]:Sem (Array Value)) else pure (Builtin.zeroCells z.cells n))=pure (List.replicate n z.cells.toList).flatten.toArray:=by
  split
  ·rename_i h
   have:n=0:=(Nat.mul_eq_zero.1 h).resolve_right (by have:=E.size;omega)
   subst this;rfl
  ·rw [←hzc]
 refine aiC (news:=(List.replicate n z.cells.toList).flatten) E hr hs hrep hlen (by rw [←hzc];exact P8 E.plain (by rw [E.cells];exact E.size) n) (fun{base k cap} hle=>?_) (fun{olds base k cap} ho hlt hbb hb0=>?_) e
 ·have hz0:∀w':World,(if n*ti.size=0 then(pure #[]:Sem (Array Value)) else pure (Builtin.zeroCells z.cells n)).run P w'=.ok (List.replicate n z.cells.toList).flatten.toArray w':=fun w'=>by rw [hap];rfl
  cases base<;>simp [Builtin.append_,run_underlying ht,run_underlying ht2,sizeOf,typeInfo,zeroValue,E.info,E.zero,hai,hw,h0,hc,hle]
  all_goals (
   by_cases hz:n=0
   ·subst hz;simp
   ·have hnz:¬(n*ti.size=0):=fun h=>(Nat.mul_eq_zero.1 h).elim hz (by have:=E.size;omega)
    simp [hnz,hz,hzc])
 ·have hn2:¬(k+n≤cap):=by omega
  have hle:k+n≤(k+n)*ti.bytes:=Nat.le_mul_of_pos_right _ hb0
  have h63':¬(9223372036854775807<((k:Int)+(n:Int))):=by omega
  have h48:=growslice_fits (bytes:=ti.bytes) hlt hbb
  have h48':¬(281474976710656<Builtin.nextslicecap (k+n) cap*ti.bytes):=by omega
  simp [Builtin.append_,run_underlying ht,run_underlying ht2,sizeOf,typeInfo,zeroValue,E.info,E.zero,hai,hw,h0,hc,hn2,h63',h48',Question.forced,ho,newRow,grownCap]
  have hza:Builtin.zeroCells z.cells n=(List.replicate n z.cells.toList).flatten.toArray:=by apply Array.ext';rw [hzc]
  split
  ·rename_i hq
   have:n=0:=(Nat.mul_eq_zero.1 hq).resolve_right (by have:=E.size;omega)
   subst this;simp
  ·rw [hza]
   congr 3
   apply Array.ext'
   simp
def Dk(x:V)(h:Hp):R V:=match x with
 | .aG=>.ok .bY h
 | .slice i o n _=>(match n with|0=>.bad|_+1=>.ok (.ptr i o) h)
 |_=>.bad
theorem aul{ts:Array TypeId}{ty:TypeId}{x:V}{a:Value}(hr:Rel G M h w)(hx:Rp M x a)(e:Dk x h=.ok r h'):Good P G M h w (Builtin.unsafeSliceData_ ts ty #[a]) r h':=by
 unfold Dk at e
 split at e
 ·cases e
  cases hx.aG
  exact .same hr (Go.Lib.run_unsafeSliceData_nil w ts ty 0 0) ⟨rfl,rfl⟩
 ·rename_i i o n cap
  obtain⟨L,k,hL,hc,rfl⟩:=hx.slice
  split at e
  ·cases e
  ·rename_i m
   cases e
   refine .same hr (Go.Lib.run_unsafeSliceData_row w ts ty (L.at o) (m+1) k ?_) (yF hL o)
   cases cap<;>simp only [aie] at hc<;>omega
 ·cases e
def H7(u:TypeId)(x n:V)(h:Hp):R V:=lV n fun n=>match x with
 | .bY=>(match n with|0=>.ok (.str []) h|_+1=>.bad)
 | .ptr i o=>(match n with
  |0=>.ok (.str []) h
  |_+1=>dQ h i fun wr cs=>(match wr with
   | .rw t _=>(match Nat.beq t u with
    |true=>(match gB n (fG o cs) with
     |some l=>(match qO l with
      |some s=>(match Nat.ble s.length 9223372036854775807 with|true=>.ok (.str s) (h.put i (some (.cells .ro cs)))|false=>.bad)
      |none=>.bad)
     |none=>.bad)
    |false=>.bad)
   | .ro=>.bad))
 |_=>.bad
theorem am2{e:TypeId}(hc:P.cellsOf e=1)(count off n:Nat)(hn:off+n≤count):liesAt P P.depth e count off e n=true:=by
 have hd:P.depth=(2*(P.types.size+Made.depth)+1)+1:=rfl
 rw [hd]
 simp only [liesAt,Bool.or_eq_true]
 left
 rw [hd]
 simp [rowAt,hc,hn,sameLayout,Nat.mod_one]
theorem aeg{pt it ty e:TypeId}(hp:P.underlying pt=some (.pointer e))(hc:P.cellsOf e=1){g off cells:Nat}(hsh:w.shape? g=some (e,cells)){l:List UInt8}(h0:l≠ [])(hn:off+l.length≤cells)(h63:l.length≤9223372036854775807)
  (hcell:∀j x,l[j]?=some x→w.cell? ((⟨g,off,none⟩:Addr).add j)=some (.int .u8 x.toNat)) {k:IntKind}:
  (Builtin.unsafeString_ #[pt,it] ty #[.pointer (some ⟨g,off,none⟩),.int k l.length]).run P w=.ok (.string ⟨l.toArray⟩) (w.freeze ⟨g,off,none⟩ l.length):=by
 have hl:l.length≠0:=by simpa using h0
 have hlb:=Go.Lib.run_loadBytes (P:=P) w l ⟨g,off,none⟩ .empty hcell
 have hlies:=am2 (P:=P) hc (cells / P.cellsOf e) off l.length (by rw [hc];simpa using hn)
 have h63':¬(9223372036854775807:Int)<(l.length:Int):=by omega
 have hmax:IntKind.i64.max=9223372036854775807:=rfl
 have hneg:¬(l.length:Int)<0:=by omega
 show(bind (_root_.Go.asInt (.int k l.length)) _:Sem Value).run P w=_
 simp [_root_.Go.asInt,asIntOf,hmax,h63',hneg,hl,variablesAt,hsh,elemOf,run_underlying hp,hlies,hlb]
theorem at6{pt it ty u:TypeId}(hp:P.underlying pt=some (.pointer u))(hc1:P.cellsOf u=1){x y:V}{a b:Value}(hr:Rel G M h w)(hx:Rp M x a)(hy:Rp M y b)(e:H7 u x y h=.ok r h'):
  Good P G M h w (Builtin.unsafeString_ #[pt,it] ty #[a,b]) r h':=by
 obtain⟨k,n,rfl,e1⟩:=pJ e
 clear e
 cases hy.int
 have none_:∀p:Option Addr,(Builtin.unsafeString_ #[pt,it] ty #[.pointer p,.int k (Int.ofNat 0)]).run P w=.ok (.string .empty) w:=by
  intro p
  have hmax:IntKind.i64.max=9223372036854775807:=rfl
  cases p with
  |none=>
   rfl
  |some a=>
   rfl
 have he:Rp M (.str []) (.string .empty):=Oh (s:= []) (by simp)
 split at e1
 ·cases hx.bY
  split at e1
  ·cases e1
   exact .same hr (none_ _) he
  ·cases e1
 ·rename_i i o
  obtain⟨L,hL,rfl⟩:=hx.ptr
  split at e1
  ·cases e1
   exact .same hr (none_ _) he
  ·rename_i m
   obtain⟨wr,cs,hi,e2⟩:=gK e1
   split at e2
   ·rename_i t f
    split at e2
    ·rename_i htu
     have htu':t=u:=Nat.eq_of_beq_eq_true htu
     subst htu'
     split at e2
     ·rename_i l hl
      split at e2
      ·rename_i s hs
       split at e2
       rotate_left
       ·cases e2
       rename_i hbig
       have hbig:=Nat.le_of_ble_eq_true hbig
       cases e2
       have hob:=qN hi
       obtain⟨L',hL',cc,el1,fr,hb,hsz,hcell,hel,hfr,_⟩:=hr.ob i _ hob
       rw [hL] at hL';cases hL'
       subst hel
       obtain⟨xs,hxl,hlen,hss,hxc⟩:=hr.cells hi hL hl
       obtain⟨hb256,hxs⟩:=arK hs hxl
       have hsl:s.length=m+1:=by
        have:=congrArg List.length hxs
        simp at this;omega
       have hsh:w.shape? L.blk=some (el1,cc.size):=by simp [World.shape?,hb]
       have hin:L.off+o+(m+1)≤cc.size:=by
        have h1:=hxc m xs[m] (List.getElem?_eq_getElem (by omega))
        have h2:w.cell? ((L.at o).add m)=cc[L.off+o+m]?:=by
         by_cases hm0:m=0
         ·subst hm0;simp [Loc.at,Addr.add,World.cell?,hb]
         ·simp [Loc.at,Addr.add,hm0,World.cell?,hb]
        rw [h2] at h1
        have:=(Array.getElem?_eq_some_iff.1 h1).1
        omega
       ·have hlu:(s.map UInt8.ofNat).length=m+1:=by simp [hsl]
        have hrun:=aeg (P:=P) (w:=w) (pt:=pt) (it:=it) (ty:=ty) (e:=el1) hp hc1 (g:=L.blk) (off:=L.off+o) hsh (l:=s.map UInt8.ofNat) (by intro hn;rw [hn] at hlu;simp at hlu) (by rw [hlu];exact hin) (by rw [hlu];omega) (fun j y hj=>by
         rw [List.getElem?_map] at hj
         cases hsj:s[j]? with
         |none=>rw [hsj] at hj;cases hj
         |some b=>
          rw [hsj] at hj
          simp only [Option.map_some,Option.some.injEq] at hj
          subst hj
          have h3:xs[j]?=some (.int .u8 (b:Int)):=by rw [hxs];simp [hsj]
          have h4:=hxc j _ h3
          rw [Ul (hb256 b (List.mem_of_getElem? hsj))]
          exact h4) (k:=k)
        rw [hlu] at hrun
        have ht:=hr.turn hob hL rfl (w':=w.freeze ⟨L.blk,L.off+o,none⟩ (m+1)) (o':=.cells .ro cs) (by simp [World.freeze]) (fun q hq=>by
         simp only [World.freeze]
         rw [if_neg (by omega),Array.getElem?_modify,if_neg (Ne.symm hq)]) rfl rfl rfl (by
         refine⟨cc,el1,(if fr.1==fr.2 then(L.off+o,L.off+o+(m+1)) else(min fr.1 (L.off+o),max fr.2 (L.off+o+(m+1)))),?_,hsz,hcell,trivial⟩
         simp only [World.freeze]
         rw [if_neg (by omega),Array.getElem?_modify,if_pos rfl,hb]
         rfl)
        exact⟨_,_,M,hrun,Oh hb256,ht.1,ht.2⟩
      ·cases e2
     ·cases e2
    ·cases e2
   ·cases e2
 ·cases e1
def apN(x:V)(h:Hp):R V:=match x with
 | .bY=>.ok .bY h
 | .ptr i o=>dQ h i fun _ cs=>(match AZ o cs with|some _=>.ok (.ptr i o) h|none=>.bad)
 |_=>.bad
theorem aNh{s d t:TypeId}(hs:P.underlying s=some (.pointer t))(hd:P.underlying d=some .unsafePointer){ti:TypeInfo}(hti:P.info? t=some ti)(hsz:ti.size≠0){x:V}{a:Value}(hr:Rel G M h w)(hx:Rp M x a)(e:apN x h=.ok r h'):Good P G M h w (convert s d a) r h':=by
 unfold apN at e
 split at e
 ·cases e
  cases hx.bY
  refine .same hr (c:=.pointer none) ?_ ⟨rfl,rfl⟩
  simp [convert,run_underlying hs,run_underlying hd,Conv.unsafePointer]
 ·rename_i i o
  obtain⟨L,hL,rfl⟩:=hx.ptr
  obtain⟨wr,cs,hi,e⟩:=gK e
  rw [nK] at e
  split at e
  ·rename_i v hv
   cases e
   obtain⟨y,hy,_,_⟩:=hr.cell hi hL hv
   exact .same hr (run_convert_to_unsafe hs hd (by simp [hti,hsz]) hy) (yF hL o)
  ·cases e
 ·cases e
def Zl(P:Program)(u:TypeId)(x:V)(h:Hp):R V:=match x with
 | .bY=>.ok .bY h
 | .ptr i o=>dQ h i fun wr cs=>(match wr with
  | .rw t full=>(match full,AZ o cs,liesAt P P.depth t (cs.length / P.cellsOf t) o u 1 with
   |true,some _,true=>.ok (.ptr i o) h
   |_,_,_=>.bad)
  | .ro=>.bad)
 |_=>.bad
theorem aH5{s d u:TypeId}(hs:P.underlying s=some .unsafePointer)(hd:P.underlying d=some (.pointer u)){iu:TypeInfo}(hiu:P.info? u=some iu){x:V}{a:Value}(hr:Rel G M h w)(hx:Rp M x a)(e:Zl P u x h=.ok r h'):Good P G M h w (convert s d a) r h':=by
 unfold Zl at e
 split at e
 ·cases e
  cases hx.bY
  refine .same hr (c:=.pointer none) ?_ ⟨rfl,rfl⟩
  simp [convert,run_underlying hs,run_underlying hd,Conv.unsafePointer]
 ·rename_i i o
  obtain⟨L,hL,rfl⟩:=hx.ptr
  obtain⟨wr,cs,hi,e⟩:=gK e
  split at e
  ·rename_i t full
   split at e
   ·rename_i v hv hla
    cases e
    rw [nK] at hv
    obtain⟨y,hy,_,_⟩:=hr.cell hi hL hv
    obtain⟨L',hL',cc,el1,fr,hb,hsz,hcell,hel,hfr,hfull⟩:=hr.ob i _ (qN hi)
    rw [hL] at hL';cases hL'
    subst hel
    obtain⟨hoff,hn⟩:=hfull rfl
    have hsh:w.shape? L.blk=some (el1,cc.size):=by simp [World.shape?,hb]
    have hsh':w.shape? (L.at o).block=some (el1,cc.size):=hsh
    have ho:(L.at o).off=o:=by simp [Loc.at,hoff]
    have hcc:cc.size=cs.length:=by rw [hsz,hn]
    refine .same hr (c:=.pointer (some (L.at o))) ?_ (yF hL o)
    simp [convert,run_underlying hs,run_underlying hd,Conv.unsafePointer,Conv.seenAt,viewAt,sizeOf,typeInfo,variablesAt,hsh',ho,hcc,hla,hiu]
   ·cases e
  ·cases e
 ·cases e
end
end Go.Vm
