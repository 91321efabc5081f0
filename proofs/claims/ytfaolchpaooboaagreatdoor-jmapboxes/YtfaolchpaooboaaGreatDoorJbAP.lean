/- Part of the claim: facts that its last text uses. No conditions. -/
import Derived.Test.YtfaolchpaooboaaGreatDoorJbAJ
set_option linter.all false
namespace Go.Vm
noncomputable section
variable{P:Program}{G:Nat}
def lT(ρ:Pos→Pos):Fn→Fn
 | .yield k=>.yield (ρ (Pos.of k)).nat
 | .func f=>.func f
 | .method n=>.method n
 | .methodOf t n=>.methodOf t n
 | .via t p f b=>.via t p f b
def kE(n:Nat):Fn→Bool
 | .yield k=>Nat.blt k n
 | .func _=>true
 | .method _=>true
 | .methodOf _ _=>true
 | .via _ _ _ _=>true
def V.ren(ρ:Pos→Pos):V→V
 | .bool b=>.bool b
 | .int k n=>.int k n
 | .str s=>.str s
 | .ptr i o=>.ptr (ρ i) o
 | .fJ=>.fJ
 | .slice i o n c=>.slice (ρ i) o n c
 | .af=>.af
 | .emp=>.emp
 | .map i=>.map (ρ i)
 | .gG=>.gG
 | .func fn a b=>.func (lT ρ fn) (a.ren ρ) (b.ren ρ)
 | .iR=>.iR
 | .iface t v=>.iface t (v.ren ρ)
 | .iw=>.iw
 | .agg l=>.agg (l.ren ρ)
 | .tuple l=>.tuple (l.ren ρ)
 | .nil=>.nil
 | .cons a b=>.cons (a.ren ρ) (b.ren ρ)
def V.ins(n:Nat):V→Bool
 | .bool _=>true
 | .int _ _=>true
 | .str _=>true
 | .ptr i _=>Nat.blt i.nat n
 | .fJ=>true
 | .slice i _ _ _=>Nat.blt i.nat n
 | .af=>true
 | .emp=>true
 | .map i=>Nat.blt i.nat n
 | .gG=>true
 | .func fn a b=>kE n fn&&(a.ins n&&b.ins n)
 | .iR=>true
 | .iface _ v=>v.ins n
 | .iw=>true
 | .agg l=>l.ins n
 | .tuple l=>l.ins n
 | .nil=>true
 | .cons a b=>a.ins n&&b.ins n
def Ob.ren(ρ:Pos→Pos):Ob→Ob
 | .cells w cs=>.cells w (cs.map (V.ren ρ))
 | .map es=>.map (es.map fun p=>(p.1.ren ρ,p.2.ren ρ))
 | .iter s n=>.iter s n
 | .bytes cs=>.bytes (cs.map (V.ren ρ))
def insL(n:Nat):List V→Bool
 | []=>true
 |v::l=>v.ins n&&insL n l
def kN(n:Nat):List (V×V)→Bool
 | []=>true
 |p::l=>(p.1.ins n&&p.2.ins n)&&kN n l
def Ob.ins(n:Nat):Ob→Bool
 | .cells _ cs=>insL n cs
 | .map es=>kN n es
 | .iter _ _=>true
 | .bytes cs=>insL n cs
theorem jY{n:Nat}:∀{l:List V},insL n l=true→∀v∈l,v.ins n=true
 | [],_,v,h=>by cases h
 |u::l,h,v,hv=>by
  simp only [insL,Bool.and_eq_true] at h
  rcases List.mem_cons.1 hv with rfl|hv
  ·exact h.1
  ·exact jY h.2 v hv
theorem V.ig(ρ:Pos→Pos)(v:V):(v.ren ρ).isRow=v.isRow:=by cases v<;>rfl
theorem Ob.jA(ρ:Pos→Pos)(o:Ob):(o.ren ρ).own=o.own:=by cases o<;>rfl
theorem FY(ρ:Pos→Pos)(x y:V):dZ (x.ren ρ) (y.ren ρ)=dZ x y:=by cases x<;>cases y<;>rfl
theorem Pos.qI(p:Pos):Pos.of p.nat=p:=Pos.fU (Pos.dm _)
section
variable{M N:Mp}{ρ:Pos→Pos}
theorem jM.ren(hN:∀i L,N i=some L→M (ρ i)=some L){f g:Fn}(h:jM N f g):jM M (lT ρ f) g:=by
 cases f<;>first|exact h|(obtain⟨L,a,b⟩:=h;exact⟨L,by rw [Pos.qI];exact hN _ _ a,b⟩)
theorem jM.gK{n:Nat}(hN:∀i,i.nat<n→∀L,M (ρ i)=some L→N i=some L){f g:Fn}(hi:kE n f=true)(h:jM M (lT ρ f) g):jM N f g:=by
 cases f<;>first|exact h|(obtain⟨L,a,b⟩:=h;exact⟨L,hN _ (by rw [Pos.dm];simpa [kE,Nat.blt_eq] using hi) L (by rw [Pos.qI] at a;exact a),b⟩)
theorem Rep.ren(hN:∀i L,N i=some L→M (ρ i)=some L){v:V}:∀{l:List Value},Rep N v l→Rep M (v.ren ρ) l:=by
 induction v with
 |ptr i o=>rintro l ⟨L,h,e⟩;exact⟨L,hN _ _ h,e⟩
 |slice i o n c=>rintro l ⟨L,k,h,hc,e⟩;exact⟨L,k,hN _ _ h,hc,e⟩
 |map i=>rintro l ⟨L,h,e⟩;exact⟨L,hN _ _ h,e⟩
 |func fn a b iha ihb=>rintro l ⟨f,x,y,q,p,h,g,e⟩;exact⟨f,x,y,q.ren hN,⟨by rw [V.ig];exact p.1,by rw [V.ig];exact p.2⟩,iha h,ihb g,e⟩
 |iface t v ih=>rintro l ⟨x,p,h,e⟩;exact⟨x,by rw [V.ig];exact p,ih h,e⟩
 |agg a ih=>rintro l ⟨x,p,h,e⟩;exact⟨x,by rw [V.ig];exact p,ih h,e⟩
 |tuple a ih=>rintro l ⟨x,p,h,e⟩;exact⟨x,by rw [V.ig];exact p,ih h,e⟩
 |cons a b iha ihb=>rintro l ⟨x,xs,q,h,p,g,e⟩;exact⟨x,xs,by rw [V.ig];exact q,iha h,by rw [V.ig];exact p,ihb g,e⟩
 |_=>intro l h;exact h
theorem Rep.gK{n:Nat}(hN:∀i,i.nat<n→∀L,M (ρ i)=some L→N i=some L){v:V}:∀{l:List Value},v.ins n=true→Rep M (v.ren ρ) l→Rep N v l:=by
 induction v with
 |ptr i o=>rintro l hi ⟨L,h,e⟩;exact⟨L,hN _ (by simpa [V.ins,Nat.blt_eq] using hi) _ h,e⟩
 |slice i o n c=>rintro l hi ⟨L,k,h,hc,e⟩;exact⟨L,k,hN _ (by simpa [V.ins,Nat.blt_eq] using hi) _ h,hc,e⟩
 |map i=>rintro l hi ⟨L,h,e⟩;exact⟨L,hN _ (by simpa [V.ins,Nat.blt_eq] using hi) _ h,e⟩
 |func fn a b iha ihb=>
  rintro l hi ⟨f,x,y,q,p,h,g,e⟩
  simp only [V.ins,Bool.and_eq_true] at hi
  rw [V.ig,V.ig] at p
  exact⟨f,x,y,q.gK hN hi.1,p,iha hi.2.1 h,ihb hi.2.2 g,e⟩
 |iface t v ih=>rintro l hi ⟨x,p,h,e⟩;rw [V.ig] at p;exact⟨x,p,ih hi h,e⟩
 |agg a ih=>rintro l hi ⟨x,p,h,e⟩;rw [V.ig] at p;exact⟨x,p,ih hi h,e⟩
 |tuple a ih=>rintro l hi ⟨x,p,h,e⟩;rw [V.ig] at p;exact⟨x,p,ih hi h,e⟩
 |cons a b iha ihb=>
  rintro l hi ⟨x,xs,q,h,p,g,e⟩
  simp only [V.ins,Bool.and_eq_true] at hi
  rw [V.ig] at p q
  exact⟨x,xs,q,iha hi.1 h,p,ihb hi.2 g,e⟩
 |_=>intro l _ h;exact h
theorem Rp.ren(hN:∀i L,N i=some L→M (ρ i)=some L){v:V}{c:Value}(h:Rp N v c):Rp M (v.ren ρ) c:=⟨by rw [V.ig];exact h.1,h.2.ren hN⟩
theorem Rp.gK{n:Nat}(hN:∀i,i.nat<n→∀L,M (ρ i)=some L→N i=some L){v:V}{c:Value}(hi:v.ins n=true)(h:Rp M (v.ren ρ) c):Rp N v c:=⟨by rw [←V.ig ρ];exact h.1,h.2.gK hN hi⟩
theorem aX.gK{n:Nat}(hN:∀i,i.nat<n→∀L,M (ρ i)=some L→N i=some L):∀{vs:List V} {l:List Value},insL n vs=true→aX M (vs.map (V.ren ρ)) l→aX N vs l
 | [],_,_,h=>h
 |v::vs,_,hi,⟨x,xs,h,g,e⟩=>by
  simp only [insL,Bool.and_eq_true] at hi
  exact⟨x,xs,h.gK hN hi.1,aX.gK hN hi.2 g,e⟩
theorem eu.ren(hN:∀i L,N i=some L→M (ρ i)=some L):∀{es:List (V×V)} {l:List MapEntry},eu N es l→eu M (es.map fun p=>(p.1.ren ρ,p.2.ren ρ)) l
 | [],_,h=>h
 |_::_,_,⟨e,es,h,g,x⟩=>⟨e,es,⟨h.1.ren hN,h.2.ren hN⟩,eu.ren hN g,x⟩
theorem eu.gK{n:Nat}(hN:∀i,i.nat<n→∀L,M (ρ i)=some L→N i=some L):∀{es:List (V×V)} {l:List MapEntry},kN n es=true→eu M (es.map fun p=>(p.1.ren ρ,p.2.ren ρ)) l→eu N es l
 | [],_,_,h=>h
 |p::ps,_,hi,⟨e,es,h,g,x⟩=>by
  simp only [kN,Bool.and_eq_true] at hi
  exact⟨e,es,⟨h.1.gK hN hi.1.1,h.2.gK hN hi.1.2⟩,eu.gK hN hi.2 g,x⟩
theorem dN.ren{es:List (V×V)}(h:dN es):dN (es.map fun p=>(p.1.ren ρ,p.2.ren ρ)):=by
 unfold dN at*
 rw [List.map_map,show((fun x=>x.1)∘fun p:V×V=>(p.1.ren ρ,p.2.ren ρ))=(V.ren ρ)∘(fun x=>x.1) from rfl,←List.map_map,List.pairwise_map]
 exact h.imp fun h=>by rw [FY];exact h
theorem dN.gK{es:List (V×V)}(h:dN (es.map fun p=>(p.1.ren ρ,p.2.ren ρ))):dN es:=by
 unfold dN at*
 rw [List.map_map,show((fun x=>x.1)∘fun p:V×V=>(p.1.ren ρ,p.2.ren ρ))=(V.ren ρ)∘(fun x=>x.1) from rfl,←List.map_map,List.pairwise_map] at h
 exact h.imp fun h=>by rw [FY] at h;exact h
theorem UY{cs:List V}{k:Nat}{v:V}(h:(cs.map (V.ren ρ))[k]?=some v):∃u,cs[k]?=some u∧v=u.ren ρ:=by
 rw [List.getElem?_map] at h
 cases hk:cs[k]? with
 |none=>rw [hk] at h;cases h
 |some u=>rw [hk] at h;cases h;exact⟨u,rfl,rfl⟩
theorem get_map{cs:List V}{k:Nat}{v:V}(h:cs[k]?=some v):(cs.map (V.ren ρ))[k]?=some (v.ren ρ):=by rw [List.getElem?_map,h];rfl
theorem dV.ren(hN:∀i L,N i=some L→M (ρ i)=some L){L:Loc}{w:World}{o:Ob}(h:dV N L w o):dV M L w (o.ren ρ):=by
 cases o with
 |cells wr cs=>
  obtain⟨c,el,fr,a,b,g,f⟩:=h
  exact⟨c,el,fr,a,b,fun k v hk=>by obtain⟨u,hu,rfl⟩:=UY hk;obtain⟨x,p,q,r⟩:=g k u hu;exact⟨x,p,q.ren hN,r⟩,by rw [List.length_map];exact f⟩
 |map es=>
  obtain⟨en,ck,a,⟨l,p,q⟩,b,c,d⟩:=h
  exact⟨en,ck,a,⟨l,p,q.ren hN⟩,b.ren,c,d⟩
 |iter s pos=>exact h
 |bytes cs=>
  obtain⟨c,el,fr,a,b,g,f⟩:=h
  exact⟨c,el,fr,a,b,fun k v hk=>by obtain⟨u,hu,rfl⟩:=UY hk;obtain⟨x,p,q,r⟩:=g k u hu;exact⟨x,p,q.ren hN,r⟩,f⟩
theorem dV.gK{n:Nat}(hN:∀i,i.nat<n→∀L,M (ρ i)=some L→N i=some L){L:Loc}{w:World}{o:Ob}(hi:o.ins n=true)(h:dV M L w (o.ren ρ)):dV N L w o:=by
 cases o with
 |cells wr cs=>
  obtain⟨c,el,fr,a,b,g,f⟩:=h
  exact⟨c,el,fr,a,b,fun k v hk=>by obtain⟨x,p,q,r⟩:=g k _ (get_map hk);exact⟨x,p,q.gK hN (jY hi _ (List.mem_of_getElem? hk)),r⟩,by rw [List.length_map] at f;exact f⟩
 |map es=>
  obtain⟨en,ck,a,⟨l,p,q⟩,b,c,d⟩:=h
  exact⟨en,ck,a,⟨l,p,q.gK hN hi⟩,b.gK,c,d⟩
 |iter s pos=>exact h
 |bytes cs=>
  obtain⟨c,el,fr,a,b,g,f⟩:=h
  exact⟨c,el,fr,a,b,fun k v hk=>by obtain⟨x,p,q,r⟩:=g k _ (get_map hk);exact⟨x,p,q.gK hN (jY hi _ (List.mem_of_getElem? hk)),r⟩,f⟩
end
structure Sub (G:Nat) (ρ:Pos→Pos) (K h:Hp):Prop where
 inj:∀i j,i.nat<K.next.nat→j.nat<K.next.nat→ρ i=ρ j→i=j
 lt:∀i,i.nat<K.next.nat→(ρ i).nat<h.next.nat
 ob:∀i o,K.get i=some o→i.nat<K.next.nat∧o.ins K.next.nat=true∧h.get (ρ i)=some (o.ren ρ)
 gl:∀g,g<G→g<K.next.nat∧ρ (Pos.of g)=Pos.of g
def sig(ρ:Pos→Pos)(a b:Nat)(i:Pos):Pos:=if i.nat<a then ρ i else Pos.of (i.nat - a+b)
theorem zK{ρ:Pos→Pos}{a b:Nat}{i:Pos}(h:i.nat<a):sig ρ a b i=ρ i:=if_pos h
theorem zL{ρ:Pos→Pos}{a b:Nat}{i:Pos}(h:a≤i.nat):sig ρ a b i=Pos.of (i.nat - a+b):=if_neg (by omega)
structure Glued (ρ:Pos→Pos) (K K' h h':Hp):Prop where
 next:h'.next.nat=h.next.nat+(K'.next.nat - K.next.nat)
 old:∀i,i.nat<K.next.nat→K.get i≠none→h'.get (ρ i)=(K'.get i).map (Ob.ren (sig ρ K.next.nat h.next.nat))
 new:∀i,K.next.nat≤i.nat→i.nat<K'.next.nat→h'.get (sig ρ K.next.nat h.next.nat i)=(K'.get i).map (Ob.ren (sig ρ K.next.nat h.next.nat))
 oth:∀j,(∀i,i.nat<K.next.nat→K.get i≠none→ρ i≠j)→(j.nat<h.next.nat∨h'.next.nat≤j.nat)→h'.get j=h.get j
def Does(P:Program)(G:Nat)(f:FuncId)(a0:List V)(K:Hp)(r:V)(Kc:Hp):Prop:=
 ∀(M:Mp) (w:World) (cargs:List Value),Rel G M K w→aX M a0 cargs→Opq P (Post G M K w r Kc) ((callFunc f cargs.toArray).run P w)
theorem Does.of{f:FuncId}{F:Fun}{a0:List V}{K K':Hp}{r:V}(hF:aj P G f F)(e:F a0 K=.ok r K'):Does P G f a0 K r K':=fun M w cargs hr ha=>hF a0 K r K' M w cargs e hr ha
theorem am7{f:FuncId}{a0:List V}{K K' h h':Hp}{ρ:Pos→Pos}{r0:V}(hD:Does P G f a0 K r0 K')(S:Sub G ρ K h)(hi:insL K.next.nat a0=true)(hG:Glued ρ K K' h h'){M:Mp}{w:World}{cargs:List Value}(hr:Rel G M h w)(ha:aX M (a0.map (V.ren ρ)) cargs):
  Opq P (Post G M h w (r0.ren (sig ρ K.next.nat h.next.nat)) h') ((callFunc f cargs.toArray).run P w):=by
 have hN:∀i,i.nat<K.next.nat→∀L,M (ρ i)=some L→(if i.nat<K.next.nat then M (ρ i) else none)=some L:=fun i hi L hL=>by rw [if_pos hi];exact hL
 have relK:Rel G (fun i=>if i.nat<K.next.nat then M (ρ i) else none) K w:=by
  refine⟨fun i o hio=>?_,fun i hge=>if_neg (by omega),fun i j o p L Q hne hio hjp ho hL hQ=>?_,fun g hg=>?_⟩
  ·obtain⟨h1,h2,h3⟩:=S.ob i o hio
   obtain⟨L,hL,hO⟩:=hr.ob _ _ h3
   exact⟨L,hN i h1 L hL,hO.gK hN h2⟩
  ·obtain⟨h1,-,h3⟩:=S.ob i o hio
   obtain⟨g1,-,g3⟩:=S.ob j p hjp
   simp only [h1,g1,if_true] at hL hQ
   exact hr.sep _ _ _ _ L Q (fun q=>hne (S.inj i j h1 g1 q)) h3 g3 (by rw [Ob.jA];exact ho) hL hQ
  ·obtain⟨h1,h2⟩:=S.gl g hg
   obtain⟨n,hn⟩:=hr.gl g hg
   exact⟨n,by simp only [Pos.dm,h1,if_true,h2];exact hn⟩
 have hcall:=hD _ w cargs relK (ha.gK hN hi)
 refine Opq.mono (fun c w' hp=>?_) hcall
 obtain⟨N',hr0,hR',hx'⟩:=hp
 have hnext:=hx'.next
 have hsame:∀i,i.nat<K.next.nat→N' i=M (ρ i):=fun i hi'=>by
  cases hm:M (ρ i) with
  |none=>exact hx'.none i hi' (by simp only [hi',if_true];exact hm)
  |some L=>exact hx'.le i L (hN i hi' L hm)
 obtain⟨M',hM'⟩:∃M':Mp,M'=fun j=>if j.nat<h.next.nat then M j else N' (Pos.of (j.nat - h.next.nat+K.next.nat)):=⟨_,rfl⟩
 have hold:∀j,j.nat<h.next.nat→M' j=M j:=fun j hj=>by rw [hM'];exact if_pos hj
 have hsig:∀i,M' (sig ρ K.next.nat h.next.nat i)=N' i:=fun i=>by
  rcases Nat.lt_or_ge i.nat K.next.nat with q|q
  ·rw [zK q,hold _ (S.lt i q),hsame i q]
  ·rw [zL q,hM']
   simp only [Pos.dm]
   rw [if_neg (by omega)]
   congr 1
   exact Pos.fU (by rw [Pos.dm];omega)
 have hfwd:∀i L,N' i=some L→M' (sig ρ K.next.nat h.next.nat i)=some L:=fun i L hL=>by rw [hsig];exact hL
 have hle:M.le M':=fun j L hL=>by
  have:j.nat<h.next.nat:=by
   rcases Nat.lt_or_ge j.nat h.next.nat with q|q
   ·exact q
   ·rw [hr.fresh j q] at hL;cases hL
  rw [hold j this];exact hL
 have cases':∀j o,h'.get j=some o→(∃i o',K'.get i=some o'∧o=o'.ren (sig ρ K.next.nat h.next.nat)∧j=sig ρ K.next.nat h.next.nat i)∨
   (j.nat<h.next.nat∧h.get j=some o∧∀i,i.nat<K.next.nat→K.get i≠none→ρ i≠j):=fun j o hj=>by
  by_cases hin:∃i,i.nat<K.next.nat∧K.get i≠none∧ρ i=j
  ·obtain⟨i,h1,h2,rfl⟩:=hin
   rw [hG.old i h1 h2] at hj
   cases hk:K'.get i with
   |none=>rw [hk] at hj;cases hj
   |some o'=>rw [hk] at hj;cases hj;exact .inl ⟨i,o',hk,rfl,(zK h1).symm⟩
  ·have hno:∀i,i.nat<K.next.nat→K.get i≠none→ρ i≠j:=fun i h1 h2 h3=>hin ⟨i,h1,h2,h3⟩
   rcases Nat.lt_or_ge j.nat h.next.nat with q|q
   ·rw [hG.oth j hno (.inl q)] at hj;exact .inr ⟨q,hj,hno⟩
   ·rcases Nat.lt_or_ge j.nat h'.next.nat with q'|q'
    ·have e1:j=sig ρ K.next.nat h.next.nat (Pos.of (j.nat - h.next.nat+K.next.nat)):=by
      rw [zL (by rw [Pos.dm];omega),Pos.dm]
      exact Pos.fU (by rw [Pos.dm];omega)
     have hn':=hG.next
     rw [e1,hG.new _ (by rw [Pos.dm];omega) (by rw [Pos.dm];omega)] at hj
     cases hk:K'.get (Pos.of (j.nat - h.next.nat+K.next.nat)) with
     |none=>rw [hk] at hj;cases hj
     |some o'=>rw [hk] at hj;cases hj;exact .inl ⟨_,o',hk,rfl,e1⟩
    ·rw [hG.oth j hno (.inr q')] at hj
     obtain⟨L,hL,-⟩:=hr.ob j o hj
     rw [hr.fresh j q] at hL;cases hL
 have apart:∀j o L,h.get j=some o→M j=some L→(∀i,i.nat<K.next.nat→K.get i≠none→ρ i≠j)→∀k p Q,K.get k=some p→(if k.nat<K.next.nat then M (ρ k) else none)=some Q→(o.own=true∨p.own=true)→L.blk≠Q.blk:=
  fun j o L hj hL hno k p Q hk hQ ho=>by
   obtain⟨h1,-,h3⟩:=S.ob k p hk
   simp only [h1,if_true] at hQ
   have hne:=hno k h1 (by rw [hk];simp)
   rcases ho with ho|ho
   ·exact hr.sep _ _ _ _ L Q hne.symm hj h3 ho hL hQ
   ·exact fun e=>hr.sep _ _ _ _ Q L hne h3 hj (by rw [Ob.jA];exact ho) hQ hL e.symm
 have relH:Rel G M' h' w':=by
  refine⟨fun j o hj=>?_,fun j hge=>?_,fun i j o p L Q hne hi' hj' ho hL hQ=>?_,fun g hg=>?_⟩
  ·rcases cases' j o hj with⟨i,o',hk,rfl,rfl⟩|⟨hlt,hg,hno⟩
   ·obtain⟨L,hL,hO⟩:=hR'.ob i o' hk
    exact⟨L,hfwd i L hL,hO.ren hfwd⟩
   ·obtain⟨L,hL,hO⟩:=hr.ob j o hg
    refine⟨L,by rw [hold j hlt];exact hL,(hO.of_block ?_).mono hle⟩
    exact hx'.same L.blk hO.lt fun k p Q hk hp hQ=>fun e=>apart j o L hg hL hno k p Q hk hQ (.inr hp) e.symm
  ·have hn':=hG.next
   rw [hM']
   simp only []
   rw [if_neg (by omega)]
   exact hR'.fresh _ (by rw [Pos.dm];omega)
  ·rcases cases' i o hi' with⟨i1,o1,hk1,rfl,rfl⟩|⟨hlt1,hg1,hno1⟩<;>rcases cases' j p hj' with⟨i2,o2,hk2,rfl,rfl⟩|⟨hlt2,hg2,hno2⟩
   ·rw [hsig] at hL hQ
    exact hR'.sep i1 i2 o1 o2 L Q (fun q=>hne (by rw [q])) hk1 hk2 (by rw [Ob.jA] at ho;exact ho) hL hQ
   ·rw [hsig] at hL
    rw [hold _ hlt2] at hQ
    obtain⟨Q',hQ',hO2⟩:=hr.ob j p hg2
    rw [hQ] at hQ';cases hQ'
    rcases hx'.own i1 o1 L hk1 (by rw [Ob.jA] at ho;exact ho) hL with hs|⟨k,pk,Kk,hk,hpo,hKk,hb⟩
    ·have:=hO2.lt;omega
    ·rw [←hb];exact fun e=>apart j p Q hg2 hQ hno2 k pk Kk hk hKk (.inr hpo) e.symm
   ·rw [hold _ hlt1] at hL
    rw [hsig] at hQ
    obtain⟨L',hL',hO1⟩:=hr.ob i o hg1
    rw [hL] at hL';cases hL'
    rcases hx'.all i2 o2 Q hk2 hQ with hs|⟨k,pk,Kk,hk,hKk,hb⟩
    ·have:=hO1.lt;omega
    ·rw [←hb];exact apart i o L hg1 hL hno1 k pk Kk hk hKk (.inl ho)
   ·rw [hold _ hlt1] at hL
    rw [hold _ hlt2] at hQ
    exact hr.sep i j o p L Q hne hg1 hg2 ho hL hQ
  ·obtain⟨h1,h2⟩:=S.gl g hg
   obtain⟨n,hn⟩:=hr.gl g hg
   exact⟨n,hle _ _ hn⟩
 refine⟨M',hr0.ren hfwd,relH,hle,by have:=hG.next;omega,hx'.os,hx'.tape,hx'.output,hx'.size,fun b hb hno=>?_,fun i o L hi' ho hL=>?_,fun j hj hn=>?_,fun i o L hi' hL=>?_,fun j hj hn=>by rw [hold j hj];exact hn⟩
 ·refine hx'.same b hb fun k p Q hk hp hQ=>?_
  obtain⟨h1,-,h3⟩:=S.ob k p hk
  simp only [h1,if_true] at hQ
  exact hno _ _ Q h3 (by rw [Ob.jA];exact hp) hQ
 ·rcases cases' i o hi' with⟨i1,o1,hk1,rfl,rfl⟩|⟨hlt1,hg1,hno1⟩
  ·rw [hsig] at hL
   rcases hx'.own i1 o1 L hk1 (by rw [Ob.jA] at ho;exact ho) hL with hs|⟨k,pk,Kk,hk,hpo,hKk,hb⟩
   ·exact .inl hs
   ·obtain⟨h1,-,h3⟩:=S.ob k pk hk
    simp only [h1,if_true] at hKk
    exact .inr ⟨_,_,Kk,h3,by rw [Ob.jA];exact hpo,hKk,hb⟩
  ·rw [hold _ hlt1] at hL
   exact .inr ⟨i,o,L,hg1,ho,hL,rfl⟩
 ·by_cases hin:∃i,i.nat<K.next.nat∧K.get i≠none∧ρ i=j
  ·obtain⟨i,h1,h2,rfl⟩:=hin
   cases hk:K.get i with
   |none=>exact absurd hk h2
   |some o=>rw [(S.ob i o hk).2.2] at hn;cases hn
  ·rw [hG.oth j (fun i h1 h2 h3=>hin ⟨i,h1,h2,h3⟩) (.inl hj)];exact hn
 ·rcases cases' i o hi' with⟨i1,o1,hk1,rfl,rfl⟩|⟨hlt1,hg1,hno1⟩
  ·rw [hsig] at hL
   rcases hx'.all i1 o1 L hk1 hL with hs|⟨k,pk,Kk,hk,hKk,hb⟩
   ·exact .inl hs
   ·obtain⟨h1,-,h3⟩:=S.ob k pk hk
    simp only [h1,if_true] at hKk
    exact .inr ⟨_,_,Kk,h3,hKk,hb⟩
  ·rw [hold _ hlt1] at hL
   exact .inr ⟨i,o,L,hg1,hL,rfl⟩
open Classical in
end
end Go.Vm
namespace Go.Vm
noncomputable section
variable{P:Program}{G:Nat}
def mkF:Hp→List Ob→Hp
 |h,[]=>h
 |h,o::l=>mkF (h.new o) l
theorem yG:∀(l:List Ob) (h:Hp),(mkF h l).next.nat=h.next.nat+l.length
 | [],h=>rfl
 |o::l,h=>by rw [mkF,yG l,List.length_cons];have:(h.new o).next.nat=h.next.nat+1:=Pos.dS _;omega
theorem wS:∀(l:List Ob) (h:Hp) (i:Pos),(mkF h l).get i=if h.next.nat≤i.nat∧i.nat<h.next.nat+l.length then l[i.nat - h.next.nat]? else h.get i
 | [],h,i=>by
  rw [if_neg]
  ·rfl
  ·simp only [List.length_nil];omega
 |o::l,h,i=>by
  rw [mkF,wS l]
  have hn:(h.new o).next.nat=h.next.nat+1:=Pos.dS _
  rw [hn,List.length_cons]
  by_cases e:i=h.next
  ·subst e
   rw [if_neg (by omega),if_pos (by omega),Nat.sub_self]
   exact h.lS o
  ·have hne:i.nat≠h.next.nat:=fun q=>e (Pos.fU q)
   rw [h.gV e]
   by_cases hi:h.next.nat+1≤i.nat∧i.nat<h.next.nat+1+l.length
   ·rw [if_pos hi,if_pos (by omega),show i.nat - h.next.nat=(i.nat - (h.next.nat+1))+1 by omega,List.getElem?_cons_succ]
   ·rw [if_neg hi,if_neg (by omega)]
def Ec:Hp→List (Option Ob)→Hp
 |h,[]=>h
 |h,o::l=>Ec ⟨h.t.set o h.next,h.next.succ⟩ l
def mkO(G:Nat)(os:List (Option Ob)):Hp:=Ec (h0 G) os
theorem FT:∀(l:List (Option Ob)) (h:Hp),(Ec h l).next.nat=h.next.nat+l.length
 | [],h=>rfl
 |o::l,h=>by
  rw [Ec,FT l,List.length_cons]
  show h.next.succ.nat+_=_
  rw [Pos.dS];omega
theorem JQ:∀(l:List (Option Ob)) (h:Hp) (i:Pos),(Ec h l).get i=if h.next.nat≤i.nat∧i.nat<h.next.nat+l.length then(l[i.nat - h.next.nat]?).join else h.get i
 | [],h,i=>by
  rw [if_neg]
  ·rfl
  ·simp only [List.length_nil];omega
 |o::l,h,i=>by
  rw [Ec,JQ l]
  show(if h.next.succ.nat≤i.nat∧i.nat<h.next.succ.nat+l.length then(l[i.nat - h.next.succ.nat]?).join else(h.t.set o h.next).get i)=_
  rw [Pos.dS,List.length_cons]
  by_cases e:i=h.next
  ·subst e
   rw [if_neg (by omega),if_pos (by omega),Nat.sub_self,T.gU]
   rfl
  ·have hne:i.nat≠h.next.nat:=fun q=>e (Pos.fU q)
   rw [T.iO _ e]
   by_cases hi:h.next.nat+1≤i.nat∧i.nat<h.next.nat+1+l.length
   ·rw [if_pos hi,if_pos (by omega),show i.nat - h.next.nat=(i.nat - (h.next.nat+1))+1 by omega,List.getElem?_cons_succ]
   ·rw [if_neg hi,if_neg (by omega)];rfl
theorem yF(os:List (Option Ob)):(mkO G os).next.nat=G+os.length:=by
 unfold mkO;rw [FT]
 show(Pos.of G).nat+_=_
 rw [Pos.dm]
theorem oC(os:List (Option Ob))(i:Pos):(mkO G os).get i=if G≤i.nat then(os[i.nat - G]?).join else none:=by
 unfold mkO;rw [JQ,vO]
 show(if(Pos.of G).nat≤i.nat∧i.nat<(Pos.of G).nat+os.length then(os[i.nat - (Pos.of G).nat]?).join else none)=_
 rw [Pos.dm]
 by_cases h1:G≤i.nat
 ·by_cases h2:i.nat<G+os.length
  ·rw [if_pos ⟨h1,h2⟩,if_pos h1]
  ·rw [if_neg (by omega),if_pos h1,List.getElem?_eq_none (by omega)];rfl
 ·rw [if_neg (by omega),if_neg h1]
def oV:Nat→List Pos→Pos
 |_,[]=>.h
 |0,p::_=>p
 |n+1,_::l=>oV n l
theorem wR:∀(n:Nat) (l:List Pos),oV n l=(l[n]?).getD .h
 |n,[]=>by cases n<;>rfl
 |0,_::_=>rfl
 |n+1,_::l=>by rw [oV,wR n l];rfl
def tau(a:Nat)(l:List Pos)(i:Pos):Pos:=match Nat.blt i.nat a with|true=>i|false=>oV (i.nat - a) l
theorem iL{a:Nat}{l:List Pos}{i:Pos}(h:i.nat<a):tau a l i=i:=by
 unfold tau;rw [show Nat.blt i.nat a=true by simpa [Nat.blt_eq] using h]
theorem uO{a:Nat}{l:List Pos}{i p:Pos}(h:a≤i.nat)(hp:l[i.nat - a]?=some p):tau a l i=p:=by
 have:Nat.blt i.nat a=false:=by
  cases hb:Nat.blt i.nat a with
  |false=>rfl
  |true=>
       have:i.nat<a:=by simpa [Nat.blt_eq] using hb
       omega
 unfold tau;rw [this]
 show oV (i.nat - a) l=p
 rw [wR,hp];rfl
theorem V.wJ(ρ σ:Pos→Pos)(v:V):(v.ren ρ).ren σ=v.ren (fun i=>σ (ρ i)):=by
 induction v with
 |func fn a b iha ihb=>
  simp only [V.ren,iha,ihb]
  congr 1
  cases fn<;>first|rfl|(simp only [lT,Pos.qI])
 |iface t v ih=>simp only [V.ren,ih]
 |agg l ih=>simp only [V.ren,ih]
 |tuple l ih=>simp only [V.ren,ih]
 |cons a b iha ihb=>simp only [V.ren,iha,ihb]
 |_=>rfl
theorem TW{n:Nat}{ρ σ:Pos→Pos}(h:∀i:Pos,i.nat<n→ρ i=σ i){f:Fn}(hf:kE n f=true):lT ρ f=lT σ f:=by
 cases f<;>first|rfl|(simp only [lT];rw [h _ (by rw [Pos.dm];simpa [kE,Nat.blt_eq] using hf)])
theorem V.jD{n:Nat}{ρ σ:Pos→Pos}(h:∀i:Pos,i.nat<n→ρ i=σ i):∀{v:V},v.ins n=true→v.ren ρ=v.ren σ:=by
 intro v
 induction v with
 |ptr i o=>intro hi;simp only [V.ren];rw [h i (by simpa [V.ins,Nat.blt_eq] using hi)]
 |slice i o m c=>intro hi;simp only [V.ren];rw [h i (by simpa [V.ins,Nat.blt_eq] using hi)]
 |map i=>intro hi;simp only [V.ren];rw [h i (by simpa [V.ins,Nat.blt_eq] using hi)]
 |func fn a b iha ihb=>
  intro hi
  simp only [V.ins,Bool.and_eq_true] at hi
  simp only [V.ren];rw [TW h hi.1,iha hi.2.1,ihb hi.2.2]
 |iface t v ih=>intro hi;simp only [V.ren];rw [ih hi]
 |agg l ih=>intro hi;simp only [V.ren];rw [ih hi]
 |tuple l ih=>intro hi;simp only [V.ren];rw [ih hi]
 |cons a b iha ihb=>
  intro hi
  simp only [V.ins,Bool.and_eq_true] at hi
  simp only [V.ren];rw [iha hi.1,ihb hi.2]
 |_=>intro _;rfl
theorem yI{n:Nat}:∀{l:List (V×V)},kN n l=true→∀v∈l,v.1.ins n=true∧v.2.ins n=true
 | [],_,v,h=>by cases h
 |u::l,h,v,hv=>by
  simp only [kN,Bool.and_eq_true] at h
  rcases List.mem_cons.1 hv with rfl|hv
  ·exact h.1
  ·exact yI h.2 v hv
theorem Ob.jD{n:Nat}{ρ σ:Pos→Pos}(h:∀i:Pos,i.nat<n→ρ i=σ i){o:Ob}(hi:o.ins n=true):o.ren ρ=o.ren σ:=by
 cases o with
 |cells w cs=>simp only [Ob.ren];congr 1;exact List.map_congr_left fun v hv=>V.jD h (jY hi v hv)
 |map es=>simp only [Ob.ren];congr 1;exact List.map_congr_left fun v hv=>by rw [V.jD h (yI hi v hv).1,V.jD h (yI hi v hv).2]
 |iter s n=>rfl
 |bytes cs=>simp only [Ob.ren];congr 1;exact List.map_congr_left fun v hv=>V.jD h (jY hi v hv)
theorem Ob.wJ(ρ σ:Pos→Pos)(o:Ob):(o.ren ρ).ren σ=o.ren (fun i=>σ (ρ i)):=by
 cases o with
 |cells w cs=>simp only [Ob.ren,List.map_map];congr 1;apply List.map_congr_left;intro v _;exact V.wJ ρ σ v
 |map es=>simp only [Ob.ren,List.map_map];congr 1;apply List.map_congr_left;intro v _;simp only [Function.comp,V.wJ]
 |iter s n=>rfl
 |bytes cs=>simp only [Ob.ren,List.map_map];congr 1;apply List.map_congr_left;intro v _;exact V.wJ ρ σ v
def rising(b:Nat):Nat→List Pos→Bool
 |_,[]=>true
 |lo,p::l=>(Nat.ble lo p.nat&&Nat.blt p.nat b)&&rising b (p.nat+1) l
theorem FB{b:Nat}:∀{lo:Nat} {l:List Pos},rising b lo l=true→(∀(k:Nat) (p:Pos),l[k]?=some p→lo+k≤p.nat∧p.nat<b)∧∀(k j:Nat) (p q:Pos),l[k]?=some p→l[j]?=some q→k<j→p.nat<q.nat
 |_,[],_=>⟨fun k p h=>by simp at h,fun k j p q h=>by simp at h⟩
 |lo,p::l,h=>by
  simp only [rising,Bool.and_eq_true] at h
  obtain⟨⟨h1,h2⟩,h6⟩:=h
  obtain⟨g2,g3⟩:=FB h6
  have h1':=Nat.le_of_ble_eq_true h1
  have h2':p.nat<b:=by simpa [Nat.blt_eq] using h2
  refine⟨fun k q hk=>?_,fun k j q r hk hj hkj=>?_⟩
  ·cases k with
   |zero=>simp at hk;subst hk;exact⟨by omega,h2'⟩
   |succ k=>simp at hk;obtain⟨a,b⟩:=g2 k q hk;exact⟨by omega,b⟩
  ·cases j with
   |zero=>omega
   |succ j=>
    simp at hj
    cases k with
    |zero=>simp at hk;subst hk;have:=(g2 j r hj).1;omega
    |succ k=>simp at hk;exact g3 k j q r hk hj (by omega)
def Ic(n:Nat)(t:Pos→Pos)(K':Hp):Pos→List (Option Ob)→Bool
 |_,[]=>true
 |i,o::l=>(match o with
  |none=>true
  |some x=>x.ins n&&(match K'.get (t i) with|some q=>yM q (x.ren t)|none=>false))&&Ic n t K' i.succ l
theorem NZ{n:Nat}{t:Pos→Pos}{K':Hp}:∀{l:List (Option Ob)} {i:Pos},Ic n t K' i l=true→∀(k:Nat) (x:Ob),l[k]?=some (some x)→x.ins n=true∧∀j:Pos,j.nat=i.nat+k→K'.get (t j)=some (x.ren t)
 | [],_,_,k,x,hk=>by simp at hk
 |o::l,i,h,k,x,hk=>by
  simp only [Ic,Bool.and_eq_true] at h
  cases k with
  |zero=>
   simp at hk;subst hk
   simp only [Bool.and_eq_true] at h
   refine⟨h.1.1,fun j hj=>?_⟩
   obtain rfl:j=i:=Pos.fU hj
   have h2:=h.1.2
   split at h2
   ·rename_i q hq;rw [hq,xg h2]
   ·cases h2
  |succ k=>
   simp at hk
   obtain⟨a,b⟩:=NZ h.2 k x hk
   exact⟨a,fun j hj=>b j (by rw [Pos.dS];omega)⟩
def aT(G a:Nat)(os:List (Option Ob))(l:List Pos)(rc:V):R V→Bool
 | .ok r K'=>(gy r (rc.ren (tau a l))&&rc.ins (G+os.length))&&((Nat.beq (G+os.length) (a+l.length)&&rising K'.next.nat a l)&&Ic (G+os.length) (tau a l) K' (Pos.of G) os)
 | .bad=>false
theorem Does.comp{f:FuncId}{F:Fun}{a0:List V}{K:Hp}{a:Nat}{os:List (Option Ob)}{l:List Pos}{rc:V}(hF:aj P G f F)(ha:K.next.nat=a)(e:aT G a os l rc (F a0 K)=true):Does P G f a0 K rc (mkO G os):=by
 subst ha
 unfold aT at e
 split at e
 ·rename_i r0 K' e0
  simp only [Bool.and_eq_true] at e
  obtain⟨⟨e1,e2⟩,⟨e3,e4⟩,e5⟩:=e
  have e1:=ja _ _ e1
  have e3:=Nat.eq_of_beq_eq_true e3
  obtain⟨r1,r2⟩:=FB e4
  have hos:=NZ e5
  have hn:=yF (G:=G) os
  intro M w cargs hr hargs
  refine Opq.mono (fun c w' hp=>?_) (hF a0 K r0 K' M w cargs e0 hr hargs)
  obtain⟨N',hr0,hR',hx'⟩:=hp
  have hGK:∀g,g<G→g<K.next.nat:=fun g hg=>by
   rcases Nat.lt_or_ge g K.next.nat with q|q
   ·exact q
   ·obtain⟨n,hn⟩:=hr.gl g hg
    rw [hr.fresh (Pos.of g) (by rw [Pos.dm];exact q)] at hn;cases hn
  have tge:∀i:Pos,K.next.nat≤i.nat→i.nat<K.next.nat+l.length→∃p,l[i.nat - K.next.nat]?=some p∧tau K.next.nat l i=p:=fun i h1 h2=>by
   have:i.nat - K.next.nat<l.length:=by omega
   exact⟨_,List.getElem?_eq_getElem this,uO h1 (List.getElem?_eq_getElem this)⟩
  have tinj:∀i j:Pos,i.nat<K.next.nat+l.length→j.nat<K.next.nat+l.length→tau K.next.nat l i=tau K.next.nat l j→i=j:=fun i j hi hj e=>by
   rcases Nat.lt_or_ge i.nat K.next.nat with x|x<;>rcases Nat.lt_or_ge j.nat K.next.nat with y|y
   ·rw [iL x,iL y] at e;exact e
   ·obtain⟨q,hq,e2⟩:=tge j y hj
    rw [iL x,e2] at e
    have:=(r1 _ _ hq).1
    rw [←e] at this;omega
   ·obtain⟨q,hq,e2⟩:=tge i x hi
    rw [iL y,e2] at e
    have:=(r1 _ _ hq).1
    rw [e] at this;omega
   ·obtain⟨q,hq,e2⟩:=tge i x hi
    obtain⟨r,hr,e3⟩:=tge j y hj
    rw [e2,e3] at e
    rcases Nat.lt_trichotomy (i.nat - K.next.nat) (j.nat - K.next.nat) with z|z|z
    ·have:=r2 _ _ _ _ hq hr z;rw [e] at this;omega
    ·exact Pos.fU (by omega)
    ·have:=r2 _ _ _ _ hr hq z;rw [e] at this;omega
  have hob:∀i x,(mkO G os).get i=some x→i.nat<G+os.length∧x.ins (G+os.length)=true∧K'.get (tau K.next.nat l i)=some (x.ren (tau K.next.nat l)):=fun i x hi=>by
   rw [oC] at hi
   split at hi
   ·rename_i hG
    have hk:os[i.nat - G]?=some (some x):=by
     cases h:os[i.nat - G]? with
     |none=>rw [h] at hi;cases hi
     |some y=>rw [h] at hi;cases y with
      |none=>cases hi
      |some y=>cases hi;rfl
    have hlt:i.nat - G<os.length:=(List.getElem?_eq_some_iff.1 hk).1
    obtain⟨p,q⟩:=hos _ _ hk
    exact⟨by omega,p,q i (by rw [Pos.dm];omega)⟩
   ·cases hi
  have hun:∀i:Pos,i.nat<G+os.length→∀L,N' (tau K.next.nat l i)=some L→(if i.nat<G+os.length then N' (tau K.next.nat l i) else none)=some L:=fun i hi L hL=>by rw [if_pos hi];exact hL
  refine⟨fun i=>if i.nat<G+os.length then N' (tau K.next.nat l i) else none,?_,⟨fun i o hi=>?_,fun i hge=>if_neg (by omega),fun i j o p L Q hne hi hj ho hL hQ=>?_,fun g hg=>?_⟩,
   ⟨fun i L hL=>?_,by omega,hx'.os,hx'.tape,hx'.output,hx'.size,fun b hb hno=>hx'.same b hb hno,fun i o L hi ho hL=>?_,fun i hi hn0=>?_,fun i o L hi hL=>?_,fun i hi hn0=>?_⟩⟩
  ·rw [e1] at hr0;exact hr0.gK hun e2
  ·obtain⟨a1,a2,a3⟩:=hob i o hi
   obtain⟨L,hL,hO⟩:=hR'.ob _ _ a3
   exact⟨L,hun i a1 L hL,hO.gK hun a2⟩
  ·obtain⟨a1,a2,a3⟩:=hob i o hi
   obtain⟨b1,b2,b3⟩:=hob j p hj
   simp only [a1,b1,if_true] at hL hQ
   exact hR'.sep _ _ _ _ L Q (fun q=>hne (tinj i j (by omega) (by omega) q)) a3 b3 (by rw [Ob.jA];exact ho) hL hQ
  ·obtain⟨n,hn'⟩:=hR'.gl g hg
   have:=hGK g hg
   refine⟨n,?_⟩
   simp only [Pos.dm]
   rw [if_pos (by omega),iL (by rw [Pos.dm];exact this)]
   exact hn'
  ·have hlt:i.nat<K.next.nat:=by
    rcases Nat.lt_or_ge i.nat K.next.nat with q|q
    ·exact q
    ·rw [hr.fresh i q] at hL;cases hL
   show(if i.nat<G+os.length then N' (tau K.next.nat l i) else none)=some L
   rw [if_pos (by omega),iL hlt]
   exact hx'.le i L hL
  ·obtain⟨a1,a2,a3⟩:=hob i o hi
   simp only [a1,if_true] at hL
   exact hx'.own _ _ L a3 (by rw [Ob.jA];exact ho) hL
  ·cases hc:(mkO G os).get i with
   |none=>rfl
   |some x=>
    obtain⟨a1,a2,a3⟩:=hob i x hc
    rw [iL hi,hx'.old i hi hn0] at a3;cases a3
  ·obtain⟨a1,a2,a3⟩:=hob i o hi
   simp only [a1,if_true] at hL
   exact hx'.all _ _ L a3 hL
  ·show(if i.nat<G+os.length then N' (tau K.next.nat l i) else none)=none
   split
   ·rw [iL hi];exact hx'.none i hi hn0
   ·rfl
 ·cases e
end
end Go.Vm
