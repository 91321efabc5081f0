/- Part of the claim: facts that its last text uses. No conditions. -/
import Derived.Test.YtfaolchpaooboaaGreatDoorJbAQ
import Derived.Test.YtfaolchpaooboaaGreatDoorJbAO
set_option linter.all false
namespace Go.Vm
noncomputable section
inductive Ctx where
 |hole
 |seqR (a:F→Hp→Out) (c:Ctx)
 |seqL (c:Ctx) (b:F→Hp→Out)
 |vU (t:Nat) (c:Ctx) (b:F→Hp→Out)
 |cndF (t:Nat) (a:F→Hp→Out) (c:Ctx)
 |blk (id:Nat) (c:Ctx)
def Ctx.fill:Ctx→(F→Hp→Out)→F→Hp→Out
 | .hole,r=>r
 | .seqR a c,r=>aC a (c.fill r)
 | .seqL c b,r=>aC (c.fill r) b
 | .vU t c b,r=>bn (.tmp t) (c.fill r) b
 | .cndF t a c,r=>bn (.tmp t) a (c.fill r)
 | .blk id c,r=>dU id (c.fill r)
def Ctx.reach:Ctx→F→Hp→Option (F×Hp)
 | .hole,fr,h=>some (fr,h)
 | .seqR a c,fr,h=>(match a fr h with
  | .nor fr h=>c.reach fr h
  | .ret _ _=>none
  | .ex _ _ _=>none
  | .bad=>none)
 | .seqL c _,fr,h=>c.reach fr h
 | .vU t c _,fr,h=>(match fr.get (Pos.of t) with
  |some v=>(match isTrueV v with|true=>c.reach fr h|false=>none)
  |none=>none)
 | .cndF t _ c,fr,h=>(match fr.get (Pos.of t) with
  |some v=>(match isFalseV v with|true=>c.reach fr h|false=>none)
  |none=>none)
 | .blk _ c,fr,h=>c.reach fr h
where
 isTrueV (v:V):Bool:=match v with| .bool b=>b|_=>false
 isFalseV (v:V):Bool:=match v with| .bool b=>!b|_=>false
def Ctx.after:Ctx→Out→Out
 | .hole,o=>o
 | .seqR _ c,o=>c.after o
 | .seqL c b,o=>lK (c.after o) b
 | .vU _ c _,o=>c.after o
 | .cndF _ _ c,o=>c.after o
 | .blk id c,o=>o9 id (c.after o)
theorem abU{v:V}(h:Ctx.reach.isTrueV v=true):v=.bool true:=by
 unfold Ctx.reach.isTrueV at h
 split at h
 ·rw [h]
 ·cases h
theorem TV{v:V}(h:Ctx.reach.isFalseV v=true):v=.bool false:=by
 unfold Ctx.reach.isFalseV at h
 split at h
 ·rename_i b
  cases b
  ·rfl
  ·cases h
 ·cases h
theorem Ctx.plug:∀(c:Ctx) {r:F→Hp→Out} {fr:F} {h:Hp} {fr':F} {h':Hp},c.reach fr h=some (fr',h')→c.fill r fr h=c.after (r fr' h')
 | .hole,r,fr,h,fr',h',e=>by cases e;rfl
 | .seqR a c,r,fr,h,fr',h',e=>by
  unfold Ctx.reach at e
  show aC a (c.fill r) fr h=c.after (r fr' h')
  rw [wH]
  split at e
  ·rename_i fr1 h1 ea
   rw [ea,uN]
   exact Ctx.plug c e
  all_goals cases e
 | .seqL c b,r,fr,h,fr',h',e=>by
  show aC (c.fill r) b fr h=lK (c.after (r fr' h')) b
  rw [wH,Ctx.plug c e]
 | .vU t c b,r,fr,h,fr',h',e=>by
  unfold Ctx.reach at e
  show bn (.tmp t) (c.fill r) b fr h=c.after (r fr' h')
  rw [tY]
  split at e
  ·rename_i v hv
   split at e
   ·rename_i hb
    rw [hv,sZ,abU hb,yK]
    exact Ctx.plug c e
   ·cases e
  ·cases e
 | .cndF t a c,r,fr,h,fr',h',e=>by
  unfold Ctx.reach at e
  show bn (.tmp t) a (c.fill r) fr h=c.after (r fr' h')
  rw [tY]
  split at e
  ·rename_i v hv
   split at e
   ·rename_i hb
    rw [hv,sZ,TV hb,vK]
    exact Ctx.plug c e
   ·cases e
  ·cases e
 | .blk id c,r,fr,h,fr',h',e=>by
  show dU id (c.fill r) fr h=o9 id (c.after (r fr' h'))
  rw [En,Ctx.plug c e]
theorem abN(b:F→Hp→Out)(n:Nat):eU b (n+1)=aC b (eU b n):=by
 funext fr h
 show(match b fr h with
  | .nor fr h=>eU b n fr h
  | .ret fr h=>.ret fr h
  | .ex i fr h=>.ex i fr h
  | .bad=>.bad)=aC b (eU b n) fr h
 unfold aC
 cases b fr h<;>rfl
variable{P:Program}{G:Nat}
theorem Ob.DU{ρ:Pos→Pos}(h:∀i,ρ i=i):∀l:List V,l.map (V.ren ρ)=l
 | []=>rfl
 |v::l=>by rw [List.map_cons,V.zQ h,Ob.DU h l]
theorem Ob.UH{ρ:Pos→Pos}(h:∀i,ρ i=i):∀l:List (V×V),l.map (fun p=>(p.1.ren ρ,p.2.ren ρ))=l
 | []=>rfl
 |(a,b)::l=>by rw [List.map_cons,V.zQ h,V.zQ h,Ob.UH h l]
theorem Ob.su{ρ:Pos→Pos}(h:∀i,ρ i=i)(o:Ob):o.ren ρ=o:=by
 cases o with
 |cells w l=>show Ob.cells w (l.map (V.ren ρ))=_;rw [Ob.DU h]
 |map es=>show Ob.map (es.map fun p=>(p.1.ren ρ,p.2.ren ρ))=_;rw [Ob.UH h]
 |iter s p=>rfl
 |bytes l=>show Ob.bytes (l.map (V.ren ρ))=_;rw [Ob.DU h]
end
end Go.Vm
namespace Go.Vm
noncomputable section
variable{P:Program}{G:Nat}
section
variable{M:Mp}{n:Nat}
theorem jM.aOm(hM:∀i L,M i=some L→i.nat<n){f g:Fn}(h:jM M f g):kE n f=true:=by
 cases f with
 |yield k=>obtain⟨L,a,b⟩:=h;have:=hM _ _ a;rw [Pos.dm] at this;simpa [kE,Nat.blt_eq] using this
 |_=>rfl
theorem Rep.JZ(hM:∀i L,M i=some L→i.nat<n){v:V}:∀{l:List Value},Rep M v l→v.ins n=true:=by
 induction v with
 |ptr i o=>rintro l ⟨L,h,e⟩;simpa [V.ins,Nat.blt_eq] using hM _ _ h
 |slice i o m c=>rintro l ⟨L,k,h,e⟩;simpa [V.ins,Nat.blt_eq] using hM _ _ h
 |map i=>rintro l ⟨L,h,e⟩;simpa [V.ins,Nat.blt_eq] using hM _ _ h
 |func fn a b iha ihb=>rintro l ⟨g,x,y,q,p,h,g',e⟩;simp [V.ins,q.aOm hM,iha h,ihb g']
 |iface t v ih=>rintro l ⟨x,p,h,e⟩;exact ih h
 |agg a ih=>rintro l ⟨x,p,h,e⟩;exact ih h
 |tuple a ih=>rintro l ⟨x,p,h,e⟩;exact ih h
 |cons a b iha ihb=>rintro l ⟨x,xs,q,h,p,g,e⟩;simp [V.ins,iha h,ihb g]
 |_=>intro l h;rfl
theorem qU{l:List V}(h:∀v∈l,v.ins n=true):insL n l=true:=by
 induction l with
 |nil=>rfl
 |cons v l ih=>simp only [insL,Bool.and_eq_true];exact⟨h v (by simp),ih fun u hu=>h u (List.mem_cons_of_mem _ hu)⟩
theorem aX.avp(hM:∀i L,M i=some L→i.nat<n):∀{vs:List V} {l:List Value},aX M vs l→insL n vs=true
 | [],_,_=>rfl
 |v::vs,_,⟨x,xs,h,g,e⟩=>by simp only [insL,Bool.and_eq_true];exact⟨h.2.JZ hM,aX.avp hM g⟩
theorem eu.avq(hM:∀i L,M i=some L→i.nat<n):∀{es:List (V×V)} {l:List MapEntry},eu M es l→kN n es=true
 | [],_,_=>rfl
 |p::ps,_,⟨e,es,h,g,x⟩=>by simp only [kN,Bool.and_eq_true];exact⟨⟨h.1.2.JZ hM,h.2.2.JZ hM⟩,eu.avq hM g⟩
theorem dV.vJ(hM:∀i L,M i=some L→i.nat<n){L:Loc}{w:World}{o:Ob}(h:dV M L w o):o.ins n=true:=by
 cases o with
 |cells wr cs=>
  obtain⟨c,el,fr,a,b,g,f⟩:=h
  exact qU fun v hv=>by obtain⟨k,hk⟩:=List.getElem?_of_mem hv;obtain⟨x,-,q,-⟩:=g k v hk;exact q.2.JZ hM
 |map es=>obtain⟨en,ck,a,⟨l,p,q⟩,-⟩:=h;exact q.avq hM
 |iter s pos=>rfl
 |bytes cs=>
  obtain⟨c,el,fr,a,b,g,f⟩:=h
  exact qU fun v hv=>by obtain⟨k,hk⟩:=List.getElem?_of_mem hv;obtain⟨x,-,q,-⟩:=g k v hk;exact q.2.JZ hM
end
def zA(h:Hp):Prop:=∀i o,h.get i=some o→i.nat<h.next.nat∧o.ins h.next.nat=true
theorem Rel.below{M:Mp}{h:Hp}{w:World}(hr:Rel G M h w){i:Pos}{L:Loc}(hL:M i=some L):i.nat<h.next.nat:=by
 by_cases hlt:i.nat<h.next.nat
 ·exact hlt
 ·rw [hr.fresh i (by omega)] at hL;cases hL
theorem Rel.aOn{M:Mp}{h:Hp}{w:World}(hr:Rel G M h w):zA h:=fun i o ho=>by
 obtain⟨L,hL,ob⟩:=hr.ob i o ho
 exact⟨hr.below hL,ob.vJ fun _ _ q=>hr.below q⟩
theorem Rel.aFC{M:Mp}{h:Hp}{w:World}(hr:Rel G M h w){args:List V}{cargs:List Value}(ha:aX M args cargs):insL h.next.nat args=true:=ha.avp fun _ _ q=>hr.below q
def Ob.weak(o o':Ob):Prop:=o=o'∨∃t cs,o=.cells (.rw t false) cs∧o'=.cells (.rw t true) cs
theorem Ob.Il{o o':Ob}(h:o.weak o'):o'.own=o.own:=by
 rcases h with rfl|⟨t,cs,rfl,rfl⟩<;>rfl
theorem dV.weak{M:Mp}{L:Loc}{w:World}{o o':Ob}(k:o.weak o')(h:dV M L w o'):dV M L w o:=by
 rcases k with rfl|⟨t,cs,rfl,rfl⟩
 ·exact h
 ·obtain⟨c,el,fr,a,b,g,f1,f2,f3⟩:=h
  exact⟨c,el,fr,a,b,g,f1,f2,fun q=>by cases q⟩
structure Carry (ρ:Pos→Pos) (h h1 h2:Hp):Prop where
 next:h.next.nat≤h2.next.nat
 old:∀i,i.nat<h.next.nat→ρ i=i
 inj:∀i j,i.nat<h2.next.nat→j.nat<h2.next.nat→ρ i=ρ j→i=j
 ob:∀i o,h2.get i=some o→i.nat<h2.next.nat∧(∃o',h1.get (ρ i)=some o'∧(o.ren ρ).weak o')∧o.ins h2.next.nat=true
theorem Post.carry{M:Mp}{h h1 h2:Hp}{w w1:World}{r:V}{c:Value}{ρ:Pos→Pos}(hr:Rel G M h w)(k:Carry ρ h h1 h2)(hi:r.ins h2.next.nat=true)(p:Post G M h w (r.ren ρ) h1 c w1):Post G M h w r h2 c w1:=by
 obtain⟨M1,hr1,R,X⟩:=p
 let M2:Mp:=fun i=>if i.nat<h2.next.nat then M1 (ρ i) else none
 have hM2:∀i,i.nat<h2.next.nat→M2 i=M1 (ρ i):=fun i hlt=>if_pos hlt
 have hM2s:∀i L,M2 i=some L→i.nat<h2.next.nat∧M1 (ρ i)=some L:=fun i L hL=>by
  by_cases hlt:i.nat<h2.next.nat
  ·exact⟨hlt,(hM2 i hlt)▸hL⟩
  ·rw [show M2 i=none from if_neg hlt] at hL;cases hL
 have hN:∀i:Pos,i.nat<h2.next.nat→∀L,M1 (ρ i)=some L→M2 i=some L:=fun i hlt L hL=>by rw [hM2 i hlt];exact hL
 have hnx:=k.next
 refine⟨M2,Rp.gK hN hi hr1,⟨fun i o ho=>?_,fun i hlt=>if_neg (by omega),fun i j o q L K hij ho hq hown hL hK=>?_,fun g hg=>?_⟩,⟨fun i L hL=>?_,hnx,X.os,X.tape,X.output,X.size,X.same,fun i o L ho hown hL=>?_,fun i hlt hno=>?_,fun i o L ho hL=>?_,fun i hlt hno=>?_⟩⟩
 ·obtain⟨lt,⟨o1,g1,k1⟩,ins⟩:=k.ob i o ho
  obtain⟨L,hL,ob⟩:=R.ob _ _ g1
  exact⟨L,by rw [hM2 i lt];exact hL,dV.gK hN ins (dV.weak k1 ob)⟩
 ·obtain⟨l1,⟨o1,g1,k1⟩,-⟩:=k.ob i o ho
  obtain⟨l2,⟨o2,g2,-⟩,-⟩:=k.ob j q hq
  exact R.sep _ _ _ _ L K (fun e=>hij (k.inj i j l1 l2 e)) g1 g2 (by rw [Ob.Il k1,Ob.jA];exact hown) (hM2s i L hL).2 (hM2s j K hK).2
 ·obtain⟨n,hn⟩:=hr.gl g hg
  have hlt:=hr.below hn
  exact⟨n,by rw [hM2 _ (by omega),k.old _ hlt];exact X.le _ _ hn⟩
 ·have hlt:=hr.below hL
  rw [hM2 i (by omega),k.old i hlt]
  exact X.le i L hL
 ·obtain⟨lt,⟨o1,g1,k1⟩,-⟩:=k.ob i o ho
  exact X.own _ _ L g1 (by rw [Ob.Il k1,Ob.jA];exact hown) (hM2s i L hL).2
 ·cases hg:h2.get i with
  |none=>rfl
  |some o=>have:=X.old i hlt hno;obtain⟨o1,q,-⟩:=(k.ob i o hg).2.1;rw [k.old i hlt,this] at q;cases q
 ·obtain⟨lt,⟨o1,g1,k1⟩,-⟩:=k.ob i o ho
  exact X.all _ _ L g1 (hM2s i L hL).2
 ·rw [hM2 i (by omega),k.old i hlt];exact X.none i hlt hno
section
variable{n m:Nat}{ρ:Pos→Pos}
theorem acA(hnm:n≤m){f:Fn}(h:kE n f=true):kE m f=true:=by
 cases f with
 |yield k=>simp only [kE,Nat.blt_eq] at h⊢;omega
 |_=>rfl
theorem V.mF(hnm:n≤m):∀{v:V},v.ins n=true→v.ins m=true:=by
 intro v
 induction v with
 |ptr i o=>intro h;simp only [V.ins,Nat.blt_eq] at h⊢;omega
 |slice i o l c=>intro h;simp only [V.ins,Nat.blt_eq] at h⊢;omega
 |map i=>intro h;simp only [V.ins,Nat.blt_eq] at h⊢;omega
 |func fn a b iha ihb=>intro h;simp only [V.ins,Bool.and_eq_true] at h⊢;exact⟨acA hnm h.1,iha h.2.1,ihb h.2.2⟩
 |iface t v ih=>exact ih
 |agg a ih=>exact ih
 |tuple a ih=>exact ih
 |cons a b iha ihb=>intro h;simp only [V.ins,Bool.and_eq_true] at h⊢;exact⟨iha h.1,ihb h.2⟩
 |_=>intro _;rfl
theorem pY(hnm:n≤m){l:List V}(h:insL n l=true):insL m l=true:=qU fun v hv=>V.mF hnm (jY h v hv)
theorem FZ(hnm:n≤m):∀{l:List (V×V)},kN n l=true→kN m l=true
 | [],_=>rfl
 |p::l,h=>by simp only [kN,Bool.and_eq_true] at h⊢;exact⟨⟨V.mF hnm h.1.1,V.mF hnm h.1.2⟩,FZ hnm h.2⟩
theorem Ob.mF(hnm:n≤m){o:Ob}(h:o.ins n=true):o.ins m=true:=by
 cases o with
 |cells w l=>exact pY hnm h
 |map l=>exact FZ hnm h
 |iter s p=>rfl
 |bytes l=>exact pY hnm h
theorem ajU(hρ:∀i:Pos,i.nat<n→ρ i=i){f:Fn}(h:kE n f=true):lT ρ f=f:=by
 cases f with
 |yield k=>
  simp only [kE,Nat.blt_eq] at h
  show Fn.yield (ρ (Pos.of k)).nat=_
  rw [hρ _ (by rw [Pos.dm];exact h),Pos.dm]
 |_=>rfl
theorem V.oq(hρ:∀i:Pos,i.nat<n→ρ i=i):∀{v:V},v.ins n=true→v.ren ρ=v:=by
 intro v
 induction v with
 |ptr i o=>intro h;simp only [V.ins,Nat.blt_eq] at h;show V.ptr (ρ i) o=_;rw [hρ i h]
 |slice i o l c=>intro h;simp only [V.ins,Nat.blt_eq] at h;show V.slice (ρ i) o l c=_;rw [hρ i h]
 |map i=>intro h;simp only [V.ins,Nat.blt_eq] at h;show V.map (ρ i)=_;rw [hρ i h]
 |func fn a b iha ihb=>intro h;simp only [V.ins,Bool.and_eq_true] at h;show V.func (lT ρ fn) (a.ren ρ) (b.ren ρ)=_;rw [ajU hρ h.1,iha h.2.1,ihb h.2.2]
 |iface t v ih=>intro h;show V.iface t (v.ren ρ)=_;rw [ih h]
 |agg a ih=>intro h;show V.agg (a.ren ρ)=_;rw [ih h]
 |tuple a ih=>intro h;show V.tuple (a.ren ρ)=_;rw [ih h]
 |cons a b iha ihb=>intro h;simp only [V.ins,Bool.and_eq_true] at h;show V.cons (a.ren ρ) (b.ren ρ)=_;rw [iha h.1,ihb h.2]
 |_=>intro _;rfl
theorem nY(hρ:∀i:Pos,i.nat<n→ρ i=i){l:List V}(h:insL n l=true):l.map (V.ren ρ)=l:=by
 induction l with
 |nil=>rfl
 |cons v l ih=>simp only [insL,Bool.and_eq_true] at h;rw [List.map_cons,V.oq hρ h.1,ih h.2]
theorem TT(hρ:∀i:Pos,i.nat<n→ρ i=i){l:List (V×V)}(h:kN n l=true):l.map (fun p=>(p.1.ren ρ,p.2.ren ρ))=l:=by
 induction l with
 |nil=>rfl
 |cons v l ih=>simp only [kN,Bool.and_eq_true] at h;rw [List.map_cons,V.oq hρ h.1.1,V.oq hρ h.1.2,ih h.2]
theorem Ob.oq(hρ:∀i:Pos,i.nat<n→ρ i=i){o:Ob}(h:o.ins n=true):o.ren ρ=o:=by
 cases o with
 |cells w l=>show Ob.cells w (l.map (V.ren ρ))=_;rw [nY hρ h]
 |map l=>show Ob.map (l.map fun p=>(p.1.ren ρ,p.2.ren ρ))=_;rw [TT hρ h]
 |iter s p=>rfl
 |bytes l=>show Ob.bytes (l.map (V.ren ρ))=_;rw [nY hρ h]
end
def fM(spec:List V→Hp→Option (V×Hp))(F:Fun):Fun:=fun args h=>match spec args h with
 |some p=>.ok p.1 p.2
 |none=>F args h
theorem fast_ok{f:FuncId}{F:Fun}{spec:List V→Hp→Option (V×Hp)}(hF:aj P G f F)
  (hs:∀args h r h2,zA h→insL h.next.nat args=true→spec args h=some (r,h2)→∃h1 ρ,F args h=.ok (r.ren ρ) h1∧Carry ρ h h1 h2∧r.ins h2.next.nat=true):aj P G f (fM spec F):=by
 intro args h r h2 M w cargs e hr ha
 unfold fM at e
 rcases hsp:spec args h with _|p
 ·rw [hsp] at e;exact hF args h r h2 M w cargs e hr ha
 ·
  obtain⟨r',h2'⟩:=p
  rw [hsp] at e
  cases e
  obtain⟨h1,ρ,e1,k,hi⟩:=hs args h r' h2' hr.aOn (hr.aFC ha) hsp
  exact Opq.mono (fun c w' p=>Post.carry hr k hi p) (hF args h _ h1 M w cargs e1 hr ha)
theorem Carry.none{h h1:Hp}(ok:zA h)(c:Ch (fun _=>False) h h1):Carry id h h1 h:=
 ⟨Nat.le_refl _,fun _ _=>rfl,fun _ _ _ _ e=>e,fun i o ho=>⟨(ok i o ho).1,⟨o,(c.get i (ok i o ho).1 fun q=>q).trans ho,.inl (Ob.su (ρ:=id) (fun _=>rfl) o)⟩,(ok i o ho).2⟩⟩
theorem Carry.one{h h1:Hp}(ok:zA h){p:Pos}{o':Ob}(hp:p.nat<h.next.nat)(c:Ch (fun j=>j=p) h h1)(hg:h1.get p=some o')(hi:o'.ins h.next.nat=true):Carry id h h1 (h.put p (some o')):=
 ⟨Nat.le_refl _,fun _ _=>rfl,fun _ _ _ _ e=>e,fun i o ho=>by
  rw [Ob.su (ρ:=id) fun _=>rfl]
  by_cases e:i=p
  ·subst e
   rw [iq] at ho
   cases ho
   exact⟨hp,⟨_,hg,.inl rfl⟩,hi⟩
  ·rw [oN _ (nU e)] at ho
   exact⟨(ok i o ho).1,⟨o,(c.get i (ok i o ho).1 e).trans ho,.inl rfl⟩,(ok i o ho).2⟩⟩
theorem V.su{v:V}:v.ren id=v:=V.zQ (ρ:=id) (fun _=>rfl) v
theorem F8{f:FuncId}{F:Fun}{spec:List V→Hp→Option (V×Hp)}(hF:aj P G f F)
  (hs:∀args h r h2,zA h→spec args h=some (r,h2)→h2=h∧(∀n,r.ins n=true)∧∃h1,F args h=.ok r h1∧Ch (fun _=>False) h h1):aj P G f (fM spec F):=
 fast_ok hF fun args h r h2 ok hi e=>by
  obtain⟨rfl,h0,h1,e1,c⟩:=hs args h r h2 ok e
  exact⟨h1,id,by rw [V.su];exact e1,Carry.none ok c,h0 _⟩
end
end Go.Vm
