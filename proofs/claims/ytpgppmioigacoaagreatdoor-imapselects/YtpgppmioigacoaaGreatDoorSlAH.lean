/- Part of the value machine, or of a walk by it: lemmas that the claim's last text uses. No conditions. -/
import Derived.Test.YtpgppmioigacoaaGreatDoorSlAG
set_option linter.unusedVariables false
set_option linter.unusedSimpArgs false
set_option linter.unnecessarySimpa false
namespace Go.Vm
noncomputable section
variable{e:FuncId→Option Fun}{Ed:Nat→Nat→Prop}{ops:Array Oper}{sb:Nat→Nat→Bool}{fr:F}{keep:Nat→Bool}{G N:Nat}{Df:List Deferred}
variable{T:Tr}{plan:Plan}{M₀ M:Mp}{h₀ f:Hp}{w₀ w:World}{L:Array Bool}{j:Nat}{a:Act}{i:Nat}
theorem Inv.akQ(I:Inv T ops Ed plan keep fr G N Df M₀ h₀ w₀ L M f j a w):∀x o,(T.Bs j).get x=some o→f.get x=some o:=by
 intro x o hx
 rw [I.f2 x (fun i' j' ob hA _ hj=>?_)]
 ·exact hx
 ·have:=(I.f3 i' j' x ob hA hj).1
  rw [hx] at this;cases this
theorem aAD{α:Type}{I:List (Nat×α)}(hn:(I.map (·.1)).Nodup){y z:Nat×α}(hy:y∈I)(hz:z∈I)(e:y.1=z.1):y=z:=by
 induction I with
 |nil=>cases hy
 |cons x I ih=>
  have hn':=List.nodup_cons.1 (by simpa using hn:(x.1::I.map (·.1)).Nodup)
  rcases List.mem_cons.1 hy with h1|h1
  ·rcases List.mem_cons.1 hz with h2|h2
   ·rw [h1,h2]
   ·exact absurd (by rw [←h1,e];exact List.mem_map_of_mem h2) hn'.1
  ·rcases List.mem_cons.1 hz with h2|h2
   ·exact absurd (by rw [←h2,←e];exact List.mem_map_of_mem h1) hn'.1
   ·exact ih hn'.2 h1 h2
structure Made (T:Tr) (ops:Array Oper) (Ed:Nat→Nat→Prop) (plan:Plan) (q:Pos):Prop where
 a1:∀i j p ob,(i,j,p,ob)∈T.A→q.nat≤p.nat∧(i,.alloc,j)∈phased 0 plan∧(T.Cs j).get p=some (KN (ent T.I (fun _=>true) j p) ob)∧Wanted ops T.E i
 a2:∀a a',a∈T.A→a'∈T.A→a.2.2.1=a'.2.2.1→a=a'
 a3:∀a a',a∈T.A→a'∈T.A→a.1=a'.1→a=a'
 ct:∀j,(∀x,(∀i ob,(i,j,x,ob)∉T.A)→(T.Cs j).get x=(T.Bs j).get x)∧(T.Cs j).next=(T.Bs j).next
 i1:∀i j p x y,(i,j,p,x,y)∈T.I→∃a,(i,.ins a,j)∈phased 0 plan∧(a,j,p,.map [])∈T.A∧Bef Ed a i∧Wanted ops T.E i
 i2:(T.I.map (·.1)).Nodup
 i4:∀i j p es,(i,j,p,.map es)∈T.A→ig es→ig (es++ent T.I (fun _=>true) j p)
theorem aa5(hI:∀j p x y,(i,j,p,x,y)∉T.I)(hi:i<L.size)(j:Nat)(p:Pos):ent T.I (fun k=>(L.setIfInBounds i true).getD k false) j p=ent T.I (fun k=>L.getD k false) j p:=
 Gt fun y hy _ _=>by
  have hne:y.1≠i:=fun e=>hI y.2.1 y.2.2.1 y.2.2.2.1 y.2.2.2.2 (by rw [←e];exact hy)
  rw [fH L hi,if_neg hne]
theorem Inv.aAQ(I:Inv T ops Ed plan keep fr G N Df M₀ h₀ w₀ L M f j a w)(A:Made T ops Ed plan h₀.next)(hall:∀i' p ob,(i',j,p,ob)∈T.A→L.getD i' false=true)(halli:∀i' p x y,(i',j,p,x,y)∈T.I→L.getD i' false=true):∀x o,(T.Cs j).get x=some o→f.get x=some o:=by
 intro x o hx
 by_cases h:∃i' ob,(i',j,x,ob)∈T.A
 ·obtain⟨i',ob,hA⟩:=h
  have:=(A.a1 _ _ _ _ hA).2.2.1
  rw [hx] at this;cases this
  rw [I.f1 _ _ _ _ hA (hall _ _ _ hA) (Nat.le_refl _)]
  rw [Gt (b:=fun _=>true) (b':=fun k=>L.getD k false) fun y hy hj _=>by
   obtain⟨i2,j2,p2,x2,y2⟩:=y
   have hj:j2=j:=hj
   subst hj
   exact(halli _ _ _ _ hy).symm]
 ·rw [(A.ct j).1 x (fun i' ob hA=>h ⟨i',ob,hA⟩)] at hx
  exact I.akQ x o hx
theorem Inv.aEA{g:Hp}(hgs:∀x o,g.get x=some o→f.get x=some o)(hgn:g.next=f.next)(I:Inv T ops Ed plan keep fr G N Df M₀ h₀ w₀ L M f j a w)(S:Static ops Ed sb G N plan)(A:Made T ops Ed plan h₀.next)(R:Ready ops Ed L i){o:Oper}(ho:ops[i]?=some o){c:Cls}{j':Nat}(hp:(i,c,j')∈phased 0 plan)(hc:c≠ .heavy)(hA:∀j1 p ob,(i,j1,p,ob)∉T.A)(hI:∀j p x y,(i,j,p,x,y)∉T.I)
  {M':Mp} {w':World} (hr:Rel G M' g w') (x:Ext M g w M' g w') {v:V} {cv:Value} (hv:Rp M' v cv) (hd:∀d,o.dst=some d→dn d T.E=some v):
  Inv T ops Ed plan keep fr G N Df M₀ h₀ w₀ (L.setIfInBounds i true) M' f j (a.put o.dst cv) w':=by
 have hiL:i<L.size:=by rw [I.lsize];exact R.lt
 obtain⟨l1,l2⟩:=I.lists R
 obtain⟨k1,k2,k3,k4⟩:=I.aDp S R ho x.le hv hd
 have fm:=I.rel.frame (f':=f) hgs hgn hr x (fun y oy hy=>by
  cases hb:g.get y with
  |none=>exact .inr ⟨hy,rfl⟩
  |some o2=>have:=hgs y o2 hb;rw [hy] at this;cases this;exact .inl rfl) hgn.symm
 have hne:∀i' j1 p ob,(i',j1,p,ob)∈T.A→i'≠i:=fun i' j1 p ob h e=>by subst e;exact hA _ _ _ h
 refine⟨l1,l2,I.jle,fun i' j1 h=>?_,fm.1,I.nx,fun i' j1 p ob h hl hj=>?_,fun y hy=>?_,I.f3,fun i' j1 p ob h hl=>?_,k1,k2,k3,k4,I.ext.trans fm.2⟩
 ·have hne':i'≠i:=fun e=>by
   subst e
   obtain⟨h1,_⟩:=jP S.nodup hp h
   exact hc h1
  rw [fH L hiL,if_neg hne']
  exact I.ph i' j1 h
 ·rw [fH L hiL,if_neg (hne _ _ _ _ h)] at hl
  rw [aa5 hI hiL]
  exact I.f1 i' j1 p ob h hl hj
 ·exact I.f2 y fun i' j1 ob h hl=>hy i' j1 ob h (by rw [fH L hiL,if_neg (hne _ _ _ _ h)];exact hl)
 ·rw [fH L hiL,if_neg (hne _ _ _ _ h)] at hl
  have hn:=I.un i' j1 p ob h hl
  by_cases hlt:p.nat<g.next.nat
  ·exact x.none p hlt hn
  ·exact hr.fresh p (by omega)
theorem Inv.still(I:Inv T ops Ed plan keep fr G N Df M₀ h₀ w₀ L M f j a w)(S:Static ops Ed sb G N plan)(A:Made T ops Ed plan h₀.next)(R:Ready ops Ed L i){o:Oper}(ho:ops[i]?=some o){c:Cls}{j':Nat}(hp:(i,c,j')∈phased 0 plan)(hc:c≠ .heavy)(hA:∀j1 p ob,(i,j1,p,ob)∉T.A)(hI:∀j p x y,(i,j,p,x,y)∉T.I)
  {M':Mp} {w':World} (hr:Rel G M' (T.Bs j) w') (x:Ext M (T.Bs j) w M' (T.Bs j) w') {v:V} {cv:Value} (hv:Rp M' v cv) (hd:∀d,o.dst=some d→dn d T.E=some v):
  Inv T ops Ed plan keep fr G N Df M₀ h₀ w₀ (L.setIfInBounds i true) M' f j (a.put o.dst cv) w':=
 I.aEA I.akQ I.nx.symm S A R ho hp hc hA hI hr x hv hd
theorem Inv.make(I:Inv T ops Ed plan keep fr G N Df M₀ h₀ w₀ L M f j a w)(S:Static ops Ed sb G N plan)(A:Made T ops Ed plan h₀.next)(R:Ready ops Ed L i){o:Oper}(ho:ops[i]?=some o){j':Nat}(hp:(i,.alloc,j')∈phased 0 plan)
  {ob:Ob} {p:Pos} (hA:(i,j',p,ob)∈T.A) {w':World} {b:Obj} {n:Nat} (hw:w'.heap=w.heap.push b) (hos:w'.os=w.os) (ht:w'.tape=w.tape) (hout:w'.output=w.output)
  (hob:∀N:Mp,M.le N→jZ N ⟨w.heap.size,0,n⟩ w' ob) {v:V} {cv:Value} (hv:Rp (M.add p ⟨w.heap.size,0,n⟩) v cv) (hd:∀d,o.dst=some d→dn d T.E=some v):
  Inv T ops Ed plan keep fr G N Df M₀ h₀ w₀ (L.setIfInBounds i true) (M.add p ⟨w.heap.size,0,n⟩) (f.put p (some ob)) j (a.put o.dst cv) w':=by
 have hiL:i<L.size:=by rw [I.lsize];exact R.lt
 obtain⟨l1,l2⟩:=I.lists R
 have hj:=I.aIo S R hp
 have hM:M p=none:=I.un _ _ _ _ hA R.no
 have hlt:=(I.f3 _ _ _ _ hA hj).2
 have hge:=(A.a1 _ _ _ _ hA).1
 obtain⟨g1,g2,g3,g4⟩:=I.aDp S R ho (Mp.UG hM _) hv hd
 have one:∀i' j1 p1 ob1,(i',j1,p1,ob1)∈T.A→p1=p→i'=i∧ob1=ob:=fun i' j1 p1 ob1 h e=>by
  have:=A.a2 _ _ h hA e
  cases this;exact⟨rfl,rfl⟩
 have one':∀i' j1 p1 ob1,(i',j1,p1,ob1)∈T.A→i'=i→p1=p∧ob1=ob:=fun i' j1 p1 ob1 h e=>by
  have:=A.a3 _ _ h hA e
  cases this;exact⟨rfl,rfl⟩
 have hI:∀j p x y,(i,j,p,x,y)∉T.I:=fun j1 p1 x1 y1 h=>by
  obtain⟨a1,h1,_⟩:=A.i1 _ _ _ _ _ h
  obtain⟨h2,_⟩:=jP S.nodup hp h1
  cases h2
 refine⟨l1,l2,I.jle,fun i' j1 h=>?_,I.rel.putAt hM (by rw [I.nx];exact hlt) ob b n hw hob,I.nx,fun i' j1 p1 ob1 h hl hj1=>?_,fun y hy=>?_,I.f3,fun i' j1 p1 ob1 h hl=>?_,g1,g2,g3,g4,I.ext.putAt hM hge ob b n hw hos ht hout⟩
 ·have hne':i'≠i:=fun e=>by
   subst e
   obtain⟨h1,_⟩:=jP S.nodup hp h
   cases h1
  rw [fH L hiL,if_neg hne']
  exact I.ph i' j1 h
 ·by_cases e:i'=i
  ·have e2:=A.a3 _ _ h hA e
   cases e2
   rw [aa5 hI hiL,Zj fun y hy hj1 hp1=>?_,KL]
   ·exact Hp.dW _ _ _
   ·obtain⟨i2,j2,p2,x2,y2⟩:=y
    have hj1:j2=j':=hj1
    have hp1:p2=p:=hp1
    subst hj1;subst hp1
    obtain⟨a2,_,g1,g2,_⟩:=A.i1 _ _ _ _ _ hy
    have e3:=A.a2 _ _ g1 hA rfl
    cases e3
    exact R.TR I.down g2
  ·have hne:p1≠p:=fun e'=>e (one _ _ _ _ h e').1
   rw [Hp.cZ _ hne]
   rw [fH L hiL,if_neg e] at hl
   rw [aa5 hI hiL]
   exact I.f1 i' j1 p1 ob1 h hl hj1
 ·have hne:y≠p:=fun e=>by
   subst e
   exact hy i j' ob hA (by rw [fH L hiL,if_pos rfl]) hj
  rw [Hp.cZ _ hne]
  refine I.f2 y fun i' j1 ob1 h hl=>hy i' j1 ob1 h ?_
  rw [fH L hiL];split
  ·rfl
  ·exact hl
 ·rw [fH L hiL] at hl
  split at hl
  ·cases hl
  ·rename_i e
   have hne:p1≠p:=fun e'=>e (one _ _ _ _ h e').1
   rw [Mp.gJ _ hne]
   exact I.un _ _ _ _ h hl
theorem Inv.turn(I:Inv T ops Ed plan keep fr G N Df M₀ h₀ w₀ L M f j a w)(S:Static ops Ed sb G N plan)(A:Made T ops Ed plan h₀.next)(R:Ready ops Ed L i){o:Oper}(ho:ops[i]?=some o)(hp:(i,.heavy,j)∈phased 0 plan)
  {M':Mp} {w':World} (hr:Rel G M' (T.Bs (j+1)) w') (x:Ext M (T.Cs j) w M' (T.Bs (j+1)) w') {v:V} {cv:Value} (hv:Rp M' v cv) (hd:∀d,o.dst=some d→dn d T.E=some v):
  ∃f',Inv T ops Ed plan keep fr G N Df M₀ h₀ w₀ (L.setIfInBounds i true) M' f' (j+1) (a.put o.dst cv) w':=by
 have hiL:i<L.size:=by rw [I.lsize];exact R.lt
 obtain⟨l1,l2⟩:=I.lists R
 obtain⟨g1,g2,g3,g4⟩:=I.aDp S R ho x.le hv hd
 have hall:∀i' p ob,(i',j,p,ob)∈T.A→L.getD i' false=true:=fun i' p ob h=>
  R.bef I.down (S.alloc i' j i j (A.a1 _ _ _ _ h).2.1 hp (Nat.le_refl _))
 have halli:∀i' p x y,(i',j,p,x,y)∈T.I→L.getD i' false=true:=fun i' p x1 y1 h=>by
  obtain⟨a1,h1,_⟩:=A.i1 _ _ _ _ _ h
  exact R.bef I.down (S.insU i' a1 j i j h1 hp (Nat.le_refl _))
 have hI:∀j p x y,(i,j,p,x,y)∉T.I:=fun j1 p1 x1 y1 h=>by
  obtain⟨a1,h1,_⟩:=A.i1 _ _ _ _ _ h
  obtain⟨h2,_⟩:=jP S.nodup hp h1
  cases h2
 have hsub:=I.aAQ A hall halli
 have hnx:(T.Cs j).next=f.next:=by rw [(A.ct j).2,I.nx]
 have hnot:∀i' j1 p ob,(i',j1,p,ob)∈T.A→j+1≤j1→(T.Cs j).get p=none:=fun i' j1 p ob h hj=>by
  rw [(A.ct j).1 p (fun i2 ob2 h2=>?_)]
  ·exact(I.f3 _ _ _ _ h (by omega)).1
  ·have:=A.a2 _ _ h h2 rfl
   cases this;omega
 have hne:∀i' j1 p ob,(i',j1,p,ob)∈T.A→i'≠i:=fun i' j1 p ob h e=>by
  subst e
  obtain⟨h1,_⟩:=jP S.nodup hp (A.a1 _ _ _ _ h).2.1
  cases h1
 let items:List (Pos×Ob):=(T.A.filter fun y=>L.getD y.1 false&&decide (j+1≤y.2.1)).map fun y=>(y.2.2.1,KN (ent T.I (fun k=>L.getD k false) y.2.1 y.2.2.1) y.2.2.2)
 have hit:∀p ob,(p,ob)∈items↔∃i' j1 ob1,(i',j1,p,ob1)∈T.A∧L.getD i' false=true∧j+1≤j1∧ob=KN (ent T.I (fun k=>L.getD k false) j1 p) ob1:=by
  intro p ob
  simp only [items,List.mem_map,List.mem_filter,Bool.and_eq_true,decide_eq_true_eq]
  constructor
  ·rintro⟨⟨i',j1,p1,ob1⟩,⟨h1,h2,h3⟩,h4⟩
   cases h4
   exact⟨i',j1,ob1,h1,h2,h3,rfl⟩
  ·rintro⟨i',j1,ob1,h1,h2,h3,rfl⟩
   exact⟨(i',j1,p,ob1),⟨h1,h2,h3⟩,rfl⟩
 let f':=Uu (T.Bs (j+1)) items
 have hf'n:f'.next=(T.Bs (j+1)).next:=ayY _ _
 have hf'1:∀p ob,(p,ob)∈items→f'.get p=some ob:=fun p ob h=>apK h fun ob' h'=>by
  obtain⟨i1,j1,ob1,h1,_,_,rfl⟩:=(hit _ _).1 h
  obtain⟨i2,j2,ob2,h2,_,_,rfl⟩:=(hit _ _).1 h'
  have:=A.a2 _ _ h1 h2 rfl
  cases this;rfl
 have hf'2:∀p,(∀ob,(p,ob)∉items)→f'.get p=(T.Bs (j+1)).get p:=fun p h=>apJ h
 have fm:=I.rel.frame (f':=f') hsub hnx hr x (fun y oy hy=>by
  by_cases h:∃ob,(y,ob)∈items
  ·obtain⟨ob,h⟩:=h
   rw [hf'1 y ob h] at hy;cases hy
   obtain⟨i',j1,ob1,h1,h2,h3,rfl⟩:=(hit _ _).1 h
   exact .inr ⟨I.f1 _ _ _ _ h1 h2 (by omega),hnot _ _ _ _ h1 h3⟩
  ·rw [hf'2 y (fun ob hm=>h ⟨ob,hm⟩)] at hy
   exact .inl hy) hf'n
 refine⟨f',l1,l2,?_,fun i' j1 h=>?_,fm.1,hf'n,fun i' j1 p ob h hl hj=>?_,fun y hy=>?_,fun i' j1 p ob h hj=>?_,fun i' j1 p ob h hl=>?_,g1,g2,g3,g4,I.ext.trans fm.2⟩
 ·have:=(tK hp).2 rfl;omega
 ·rw [fH L hiL]
  by_cases e:i'=i
  ·subst e
   obtain⟨_,h1⟩:=jP S.nodup hp h
   rw [if_pos rfl];subst h1
   exact⟨fun _=>by omega,fun _=>rfl⟩
  ·rw [if_neg e,I.ph i' j1 h]
   constructor
   ·intro h1;omega
   ·intro h1
    rcases Nat.lt_or_ge j1 j with h2|h2
    ·exact h2
    ·exfalso
     have hj1:j1=j:=by omega
     subst hj1
     exact e (S.same i' i j1 h hp)
 ·rw [fH L hiL,if_neg (hne _ _ _ _ h)] at hl
  rw [aa5 hI hiL]
  exact hf'1 p _ ((hit _ _).2 ⟨i',j1,ob,h,hl,hj,rfl⟩)
 ·refine hf'2 y fun ob hm=>?_
  obtain⟨i',j1,ob1,h1,h2,h3,rfl⟩:=(hit _ _).1 hm
  exact hy i' j1 ob1 h1 (by rw [fH L hiL,if_neg (hne _ _ _ _ h1)];exact h2) h3
 ·have h1:=I.f3 _ _ _ _ h (show j≤j1 by omega)
  have hn:(T.Cs j).next=(T.Bs j).next:=(A.ct j).2
  exact⟨x.old p (by rw [hn];exact h1.2) (hnot _ _ _ _ h hj),by have:=x.next;rw [hn] at this;omega⟩
 ·rw [fH L hiL,if_neg (hne _ _ _ _ h)] at hl
  have hn:=I.un i' j1 p ob h hl
  have hj1:j≤j1:=by
   rcases Nat.lt_or_ge j1 j with h2|h2
   ·have hlt:j1<bQ plan:=by have:=I.jle;omega
    obtain⟨i2,hp2,_⟩:=S.heavyAt j1 hlt
    have h3:=(I.ph i2 j1 hp2).2 h2
    have:=I.down.bef (S.alloc i' j1 i2 j1 (A.a1 _ _ _ _ h).2.1 hp2 (Nat.le_refl _)) h3
    rw [hl] at this;cases this
   ·exact h2
  exact x.none p (by rw [(A.ct j).2];exact(I.f3 _ _ _ _ h hj1).2) hn
theorem Inv.ins(I:Inv T ops Ed plan keep fr G N Df M₀ h₀ w₀ L M f j a w)(S:Static ops Ed sb G N plan)(A:Made T ops Ed plan h₀.next)(R:Ready ops Ed L i){o:Oper}(ho:ops[i]?=some o){x:Nat}{j':Nat}(hp:(i,.ins x,j')∈phased 0 plan)
  {b:Nat} {p:Pos} {k y:V} (hI:(i,j',p,k,y)∈T.I) (hA:(b,j',p,.map [])∈T.A) {M':Mp} {w':World}
  (hr:Rel G M' (f.put p (some (.map (ent T.I (fun k=>L.getD k false) j' p++ [(k,y)])))) w') (hx:Ext M f w M' (f.put p (some (.map (ent T.I (fun k=>L.getD k false) j' p++ [(k,y)])))) w') {cv:Value} (hv:Rp M' V.undef cv) (hd:∀d,o.dst=some d→dn d T.E=some V.undef):
  Inv T ops Ed plan keep fr G N Df M₀ h₀ w₀ (L.setIfInBounds i true) M' (f.put p (some (.map (ent T.I (fun k=>(L.setIfInBounds i true).getD k false) j' p)))) j (a.put o.dst cv) w':=by
 have hiL:i<L.size:=by rw [I.lsize];exact R.lt
 obtain⟨l1,l2⟩:=I.lists R
 have hj:=I.aE6 S R hp
 obtain⟨g1,g2,g3,g4⟩:=I.aDp S R ho hx.le hv hd
 have hperm:List.Perm (ent T.I (fun k=>L.getD k false) j' p++ [(k,y)]) (ent T.I (fun k=>(L.setIfInBounds i true).getD k false) j' p):=
  (aqd (y:=(i,j',p,k,y)) A.i2 hI R.no (by show(L.setIfInBounds i true).getD i false=true;rw [fH L hiL,if_pos rfl]) fun k hk=>by show(L.setIfInBounds i true).getD k false=_;rw [fH L hiL,if_neg hk]).symm
 have hnA:∀j1 p1 ob1,(i,j1,p1,ob1)∉T.A:=fun j1 p1 ob1 h=>by
  obtain⟨h1,_⟩:=jP S.nodup hp (A.a1 _ _ _ _ h).2.1
  cases h1
 have hoth:∀j1 p1,p1≠p→ent T.I (fun k=>(L.setIfInBounds i true).getD k false) j1 p1=ent T.I (fun k=>L.getD k false) j1 p1:=fun j1 p1 hne=>Gt fun z hz _ hzp=>by
  by_cases e:z.1=i
  ·exfalso
   have h1:z=(i,j',p,k,y):=aAD A.i2 hz hI e
   subst h1
   exact hne hzp.symm
  ·rw [fH L hiL,if_neg e]
 refine⟨l1,l2,I.jle,fun i' j1 h=>?_,hr.perm hperm,I.nx,fun i' j1 p1 ob1 h hl hj1=>?_,fun z hz=>?_,I.f3,fun i' j1 p1 ob1 h hl=>?_,g1,g2,g3,g4,I.ext.trans hx.perm⟩
 ·have hne':i'≠i:=fun e=>by
   subst e
   obtain⟨h1,_⟩:=jP S.nodup hp h
   cases h1
  rw [fH L hiL,if_neg hne']
  exact I.ph i' j1 h
 ·have hne':i'≠i:=fun e=>by subst e;exact hnA _ _ _ h
  rw [fH L hiL,if_neg hne'] at hl
  by_cases hpp:p1=p
  ·subst hpp
   have:=A.a2 _ _ h hA rfl
   cases this
   rw [Hp.dW]
   rfl
  ·rw [Hp.cZ _ hpp,hoth j1 p1 hpp]
   exact I.f1 i' j1 p1 ob1 h hl hj1
 ·by_cases hzp:z=p
  ·subst hzp
   obtain⟨a2,_,k1,k2,_⟩:=A.i1 _ _ _ _ _ hI
   exact absurd hj (hz a2 j' _ k1 (by
    have:=R.bef I.down k2
    rw [fH L hiL];split
    ·rfl
    ·exact this))
  ·rw [Hp.cZ _ hzp]
   refine I.f2 z fun i' j1 ob1 h hl=>hz i' j1 ob1 h ?_
   rw [fH L hiL];split
   ·rfl
   ·exact hl
 ·have hne':i'≠i:=fun e=>by subst e;exact hnA _ _ _ h
  rw [fH L hiL,if_neg hne'] at hl
  have hn:=I.un i' j1 p1 ob1 h hl
  by_cases hlt:p1.nat<f.next.nat
  ·exact hx.none p1 hlt hn
  ·exact hr.fresh p1 (by show f.next.nat≤p1.nat;omega)
end
end Go.Vm

namespace Go.Vm
noncomputable section
variable{P:Program}{e:FuncId→Option Fun}{Ed:Nat→Nat→Prop}{ops:Array Oper}{sb:Nat→Nat→Bool}{fr:F}{keep:Nat→Bool}{G N:Nat}{Df:List Deferred}
variable{T:Tr}{plan:Plan}{M₀ M:Mp}{h₀ f:Hp}{w₀ w:World}{L:Array Bool}{j:Nat}{a:Act}{i:Nat}
def anp(c:Value):Option Bool:=match c with| .bool b=>some b|_=>none
theorem aey{g d:Nat}{c:Value}(hd:(ops[g]?).bind (·.dst)=some d)(hv:a.tmps.getD d undef=c):yielded ops a.tmps g=anp c:=by
 unfold yielded
 rw [hd]
 simp only [Option.bind_some]
 rw [Array.getD_eq_getD_getElem?] at hv
 cases hq:a.tmps[d]? with
 |none=>rw [hq] at hv;simp at hv;subst hv;rfl
 |some z=>rw [hq] at hv;simp at hv;subst hv;cases z<;>rfl
theorem Inv.akF(I:Inv T ops Ed plan keep fr G N Df M₀ h₀ w₀ L M f j a w)(S:Static ops Ed sb G N plan)(R:Ready ops Ed L i){o:Oper}(ho:ops[i]?=some o){g d:Nat}{b:Bool}(hg:o.guard=some (g,b))(hd:(ops[g]?).bind (·.dst)=some d){v:V}(hv:dn d T.E=some v):
  Rp M v (a.tmps.getD d undef):=by
 have hL:=R.bef I.down (S.guard i o g b ho hg)
 cases hog:ops[g]? with
 |none=>rw [hog] at hd;cases hd
 |some og=>
  rw [hog] at hd
  exact I.e1 g og d v hL hog hd hv
theorem Inv.step(hE:∀f F,e f=some F→aJ P G f F)(I:Inv T ops Ed plan keep fr G N Df M₀ h₀ w₀ L M f j a w)(S:Static ops Ed sb G N plan)(A:Made T ops Ed plan h₀.next)
  (hst:∀i c j,(i,c,j)∈phased 0 plan→jU P e ops sb fr T i c j) (R:Ready ops Ed L i) {Q:Exit→Act→World→Prop}:
  wpOp P ops Q i (fun a' w'=>∃M' f' j',Inv T ops Ed plan keep fr G N Df M₀ h₀ w₀ (L.setIfInBounds i true) M' f' j' a' w') a w:=by
 obtain⟨c,j',hp⟩:=S.cover i R.lt
 obtain⟨o,ho,hcase⟩:=hst i c j' hp
 unfold wpOp
 simp only [ho]
 have notA:c≠ .alloc→∀j1 p ob,(i,j1,p,ob)∉T.A:=fun hc j1 p ob h=>by
  obtain⟨h1,_⟩:=jP S.nodup hp (A.a1 _ _ _ _ h).2.1
  exact hc h1
 have notI:(∀x,c≠ .ins x)→∀j p x y,(i,j,p,x,y)∉T.I:=fun hc j1 p1 x1 y1 h=>by
  obtain⟨a1,h1,_⟩:=A.i1 _ _ _ _ _ h
  obtain⟨h2,_⟩:=jP S.nodup hp h1
  exact hc _ h2
 have hbr:Rel G M (T.Bs j) w:=I.rel.sub I.akQ (by rw [I.nx];exact Nat.le_refl _)
 have hcr:c=.heavy→j'=j∧Rel G M (T.Cs j) w:=fun hc=>by
  subst hc
  have hj:=I.aIl S R hp
  subst hj
  refine⟨rfl,I.rel.sub (I.aAQ A (fun i' p ob h=>R.bef I.down (S.alloc i' _ i _ (A.a1 _ _ _ _ h).2.1 hp (Nat.le_refl _))) fun i' p x y h=>?_) ?_⟩
  ·obtain⟨a1,h1,_⟩:=A.i1 _ _ _ _ _ h
   exact R.bef I.down (S.insU i' a1 _ i _ h1 hp (Nat.le_refl _))
  rw [I.nx,(A.ct _).2];exact Nat.le_refl _
 rcases hcase with⟨hg,vs,v,hsrc,hd,hcls⟩|⟨⟨g,b,d,hg,hgd,hgv⟩,hd,hh⟩
 ·have hw:Region.wanted o (yielded ops a.tmps)=true:=by
   rcases hg with hg|⟨g,b,d,hg,hgd,hgv⟩
   ·simp [Region.wanted,hg]
   ·have:=(I.akF S R ho hg hgd hgv).bool
    have hy:=aey hgd this
    simp [Region.wanted,hg,hy,anp]
  rw [if_pos hw]
  left
  have hvs:=I.operands S R ho (fun _ h=>h) hsrc
  cases c with
  |pure=>
   obtain⟨hpu,h1,h2,hop⟩:=hcls
   have hop':iQ P e o.op vs (T.Bs j)=.ok v (T.Bs j):=by
    have:=pure_ok (e:=e) vs hpu h1 (T.Bs j)
    rw [hop] at this;exact this
   exact Gh (Kz hE hvs hbr hop') fun cv w' ⟨M',hv,hr',hx⟩=>⟨M',f,j,I.still S A R ho hp (by simp) (notA (by simp)) (notI (by simp)) hr' hx hv hd⟩
  |read n=>
   obtain⟨hro,hop⟩:=hcls
   obtain⟨h1,h2⟩:=I.aJL S R hp
   obtain⟨h',hop⟩:=hop j h1 h2
   have hsame:=aEL hro hop
   subst hsame
   exact Gh (Kz hE hvs hbr hop) fun cv w' ⟨M',hv,hr',hx⟩=>⟨M',f,j,I.still S A R ho hp (by simp) (notA (by simp)) (notI (by simp)) hr' hx hv hd⟩
  |alloc=>
   obtain⟨ob,mk,p,hal,hv,hA⟩:=hcls
   obtain⟨cv,w',bb,n,hrun,hw',hos,ht,hout,hob,hmk⟩:=azg (P:=P) (w:=w) hvs hal
   unfold Oper.wp
   rw [hrun]
   refine⟨_,_,j,I.make S A R ho hp hA hw' hos ht hout hob (v:=v) ?_ hd⟩
   rw [hv]
   exact hmk _ _ (Mp.fE _ _ _)
  |own x=>
   obtain⟨u,p,h1,rfl,hown,hu,hop⟩:=hcls
   obtain⟨hpa,hbef,oa,o',t,hoa,hta,ho',hops,hsb⟩:=S.ownA i x j' hp
   rw [ho] at ho';cases ho'
   have hLa:=R.bef I.down hbef
   have hj:=I.aNA S R hp
   obtain⟨oa',hoa',hca⟩:=hst x .alloc j' hpa
   rw [hoa] at hoa';cases hoa'
   rw [hops] at hsrc
   obtain⟨u',us,hus,hsu,-⟩:=hsrc
   cases hus
   have hut:dn t T.E=some u:=by
    rcases hsu with⟨_,hf⟩|⟨hn,_⟩
    ·exact hf
    ·rw [hsb] at hn;cases hn
   rcases hca with⟨_,vs2,v2,_,hd2,ob,mk,p2,hal,hv2,hA⟩|⟨_,hd2,_⟩
   ·have e2:=hd2 t hta
    rw [hut] at e2
    cases e2
    have hp2:p2=p:=by
     rw [hv2] at hu
     exact(aIp hal hu).symm
    subst hp2
    have hfp:=I.f1 _ _ _ _ hA hLa hj
    have hcp:=(A.a1 _ _ _ _ hA).2.2.1
    obtain⟨cs,hrow⟩:=aAd hown hu hop
    have hopf:=auM (g:=f) hown hu (by
     rw [hfp,hcp]
     rw [hcp] at hrow
     cases ob<;>first|rfl|cases hrow) hop
    exact Gh (Kz hE hvs I.rel hopf) fun cv w' ⟨M',hv,hr',hx⟩=>⟨M',f,j,I.aEA (fun _ _ h=>h) rfl S A R ho hp (by simp) (notA (by simp)) (notI (by simp)) hr' hx hv hd⟩
   ·have e2:=hd2 t hta
    rw [hut] at e2
    cases e2
    cases hu
  |ins x=>
   obtain⟨p,k,y,rfl,⟨t,mm,kk,vv,kt,et,d,hop,hkt,hdk,hf⟩,rfl,hI⟩:=hcls
   obtain⟨b,hpi,hA,hbef,-⟩:=A.i1 _ _ _ _ _ hI
   have hj:=I.aE6 S R hp
   have hfp:=I.f1 _ _ _ _ hA (R.bef I.down hbef) hj
   have hiL:i<L.size:=by rw [I.lsize];exact R.lt
   have hkd:ig (ent T.I (fun k=>L.getD k false) j' p++ [(k,y)]):=by
    have h1:=A.i4 _ _ _ [] hA List.Pairwise.nil
    refine ig.perm ?_ (h1.sub (aKi T.I (fun k=>(L.setIfInBounds i true).getD k false) j' p))
    exact aqd (y:=(i,j',p,k,y)) A.i2 hI R.no (by show(L.setIfInBounds i true).getD i false=true;rw [fH L hiL,if_pos rfl]) fun k hk=>by show(L.setIfInBounds i true).getD k false=_;rw [fH L hiL,if_neg hk]
   have hopf:iQ P e o.op [.map p,k,y] f=.ok V.undef (f.put p (some (.map (ent T.I (fun k=>L.getD k false) j' p++ [(k,y)])))):=by
    rw [hop]
    show Du P t (.map p) k y f=_
    unfold Du
    rw [hkt]
    simp only [hdk,hf]
    unfold xG
    simp only [hfp,KN,List.nil_append,auD hkd.last]
   exact Gh (Kz hE hvs I.rel hopf) fun cv w' ⟨M',hv,hr',hx⟩=>⟨M',_,j,I.ins S A R ho hp hI hA hr' hx hv hd⟩
  |heavy=>
   obtain⟨hj,hcr⟩:=hcr rfl
   subst hj
   exact Gh (Kz hE hvs hcr hcls) fun cv w' ⟨M',hv,hr',hx⟩=>by
    obtain⟨f',hI⟩:=I.turn S A R ho hp hr' hx hv hd
    exact⟨M',f',_,hI⟩
 ·have hy:Region.wanted o (yielded ops a.tmps)=false:=by
   rcases hgv with hgv|⟨l,hgv⟩
   ·have:=aey hgd (I.akF S R ho hg hgd hgv).bool
    simp only [Region.wanted,hg,this,anp]
    cases b<;>rfl
   ·obtain⟨xs,_,hc⟩:=(I.akF S R ho hg hgd hgv).tuple
    have:=aey hgd hc
    simp only [Region.wanted,hg,this,anp]
    cases b<;>rfl
  rw [hy]
  simp only [Bool.false_eq_true,if_false]
  have hno:∀j1 p ob,(i,j1,p,ob)∉T.A:=fun j1 p ob h=>by
   obtain⟨o',ho',hw⟩:=(A.a1 _ _ _ _ h).2.2.2
   rw [ho] at ho';cases ho'
   rcases hw with hw|⟨g',b',d',hw1,hw2,hw3⟩
   ·rw [hg] at hw;cases hw
   ·rw [hg] at hw1;cases hw1
    rw [hgd] at hw2;cases hw2
    rcases hgv with hgv|⟨l,hgv⟩
    ·rw [hgv] at hw3;cases b<;>cases hw3
    ·rw [hgv] at hw3;cases hw3
  have hnoI:∀j p x y,(i,j,p,x,y)∉T.I:=fun j1 p1 x1 y1 h=>by
   obtain⟨_,_,_,_,o',ho',hw⟩:=A.i1 _ _ _ _ _ h
   rw [ho] at ho';cases ho'
   rcases hw with hw|⟨g',b',d',hw1,hw2,hw3⟩
   ·rw [hg] at hw;cases hw
   ·rw [hg] at hw1;cases hw1
    rw [hgd] at hw2;cases hw2
    rcases hgv with hgv|⟨l,hgv⟩
    ·rw [hgv] at hw3;cases b<;>cases hw3
    ·rw [hgv] at hw3;cases hw3
  by_cases hc:c=.heavy
  ·obtain⟨hj,hcr2⟩:=hcr hc
   subst hj
   subst hc
   have hB:=hh rfl
   obtain⟨f',hI⟩:=I.turn S A R ho hp (M':=M) (w':=w) (by rw [hB];exact hcr2) (by rw [hB];exact .refl hcr2) (pG M) hd
   exact⟨M,f',_,hI⟩
  ·exact⟨M,f,j,I.still S A R ho hp hc hno hnoI hbr (.refl hbr) (pG M) hd⟩
def left(L:Array Bool):Nat:=L.toList.countP (fun b=>!b)
theorem avp{L:Array Bool}{i:Nat}(hi:i<L.size)(hno:L.getD i false=false):left (L.setIfInBounds i true)+1=left L:=by
 unfold left
 rw [Array.toList_setIfInBounds,List.countP_set (by simpa using hi)]
 have h1:L.toList[i]'(by simpa using hi)=false:=by
  rw [Array.getElem_toList]
  simpa [Array.getD,hi] using hno
 have h2:0<L.toList.countP (fun b=>!b):=by
  rw [List.countP_pos_iff]
  exact⟨false,by rw [←h1];exact List.getElem_mem _,rfl⟩
 rw [h1]
 simp only [Bool.not_false,Bool.not_true,if_true,Bool.false_eq_true,if_false]
 omega
theorem arP{L:Array Bool}(h:left L=0){i:Nat}(hi:i<L.size):L.getD i false=true:=by
 unfold left at h
 rw [List.countP_eq_zero] at h
 have:=h L[i] (by simp)
 simpa [Array.getD,hi] using this
theorem any_ok(hE:∀f F,e f=some F→aJ P G f F)(back:∀j i,Edge ops j i→j<i)(S:Static ops (Edge ops) sb G N plan)(A:Made T ops (Edge ops) plan h₀.next)
  (hst:∀i c j,(i,c,j)∈phased 0 plan→jU P e ops sb fr T i c j) {Q:Exit→Act→World→Prop}
  (hfin:∀L M f j a w,Inv T ops (Edge ops) plan keep fr G N Df M₀ h₀ w₀ L M f j a w→(∀i,i<ops.size→L.getD i false=true)→Q .normal a w):
  ∀(fuel:Nat) (L:Array Bool) (M:Mp) (f:Hp) (j:Nat) (a:Act) (w:World),left L≤fuel→Inv T ops (Edge ops) plan keep fr G N Df M₀ h₀ w₀ L M f j a w→wpAny P .any ops Q fuel L a w:=by
 intro fuel
 induction fuel with
 |zero=>
  intro L M f j a w hl I
  have hall:∀i,i<ops.size→L.getD i false=true:=fun i hi=>arP (by omega) (by rw [I.lsize];exact hi)
  refine⟨?_,hfin L M f j a w I hall⟩
  apply List.eq_nil_iff_forall_not_mem.2
  intro i hi
  have R:=aaM I.lsize hi
  have:=hall i R.lt
  rw [R.no] at this;cases this
 |succ fuel ih=>
  intro L M f j a w hl I
  refine⟨fun hr=>hfin L M f j a w I fun i=>?_,fun i hi=>?_⟩
  ·induction i using Nat.strongRecOn with
   |_ i ihi=>
    intro hi
    cases hv:L.getD i false with
    |true=>rfl
    |false=>
     exfalso
     have:i∈Region.ready .any ops L:=auw I.lsize hi hv fun k hk=>ihi k (back k i hk) (by have:=back k i hk;omega)
     rw [hr] at this;cases this
  ·have R:=aaM I.lsize hi
   refine wpOp_mono ?_ (I.step hE S A hst R (Q:=Q))
   rintro a' w' ⟨M',f',j',I'⟩
   have:=avp (by rw [I.lsize];exact R.lt) R.no
   exact ih _ M' f' j' a' w' (by omega) I'
def bump(n:Nat)(p:Pos):Pos:=Nat.rec (motive:=fun _=>Pos) p (fun _ ih=>ih.succ) n
theorem akP(n:Nat)(p:Pos):(bump n p).nat=p.nat+n:=by
 induction n with
 |zero=>rfl
 |succ n ih=>show(bump n p).succ.nat=_;rw [Pos.eY,ih];omega
def vH(keep:Nat→Bool)(E:Env)(k:F→Out):List Oper→F→Out
 | [],fr=>k fr
 |o::l,fr=>(match o.dst with
  |none=>vH keep E k l fr
  |some d=>(match keep d with
   |false=>vH keep E k l fr
   |true=>(match dn d E with|some v=>vH keep E k l (fr.set (some v) (Pos.of d))|none=>.bad)))
theorem ahR{E:Env}{k:F→Out}{out:Out}(hb:out≠ .bad):∀{l:List Oper} {fr:F},vH keep E k l fr=out→
  ∃fr',k fr'=out∧∀t v,fr'.get (Pos.of t)=some v→(∃o∈l,o.dst=some t∧keep t=true∧dn t E=some v)∨((∀o∈l,o.dst=some t→keep t=false)∧fr.get (Pos.of t)=some v)
 | [],fr,h=>⟨fr,h,fun t v hv=>.inr ⟨fun o ho=>(by cases ho),hv⟩⟩
 |o::l,fr,h=>by
  unfold vH at h
  have keepOn:(∀t,o.dst=some t→keep t=false)→vH keep E k l fr=out→∃fr',k fr'=out∧∀t v,fr'.get (Pos.of t)=some v→(∃o'∈o::l,o'.dst=some t∧keep t=true∧dn t E=some v)∨((∀o'∈o::l,o'.dst=some t→keep t=false)∧fr.get (Pos.of t)=some v):=by
   intro hno h
   obtain⟨fr',h1,h2⟩:=ahR hb h
   refine⟨fr',h1,fun t v hv=>?_⟩
   rcases h2 t v hv with⟨o',a,b⟩|⟨a,b⟩
   ·exact .inl ⟨o',by simp [a],b⟩
   ·refine .inr ⟨fun o' ho' hd=>?_,b⟩
    rcases List.mem_cons.1 ho' with rfl|ho'
    ·exact hno t hd
    ·exact a o' ho' hd
  split at h
  ·rename_i hd
   exact keepOn (fun t ht=>by rw [hd] at ht;cases ht) h
  ·rename_i d hd
   split at h
   ·rename_i hk
    exact keepOn (fun t ht=>by rw [hd] at ht;cases ht;exact hk) h
   ·rename_i hk
    split at h
    ·rename_i v hv
     obtain⟨fr',h1,h2⟩:=ahR hb h
     refine⟨fr',h1,fun t u hu=>?_⟩
     rcases h2 t u hu with⟨o',a,b⟩|⟨a,b⟩
     ·exact .inl ⟨o',by simp [a],b⟩
     ·by_cases ht:t=d
      ·subst ht
       rw [T.oK] at b
       cases b
       exact .inl ⟨o,by simp,hd,hk,hv⟩
      ·rw [T.tY _ (fun e=>ht (Pos.aeT e))] at b
       refine .inr ⟨fun o' ho' hd'=>?_,b⟩
       rcases List.mem_cons.1 ho' with rfl|ho'
       ·rw [hd] at hd';cases hd';exact absurd rfl ht
       ·exact a o' ho' hd'
    ·exact absurd h.symm hb
def aDr(P:Program)(keep:Nat→Bool)(e:FuncId→Option Fun)(ops:Array Oper)(sb:Nat→Nat→Bool)(plan:Plan)(fr:F)(h:Hp):Out:=
 xO P e ops sb fr (fun E h=>vH keep E (fun fr=>.nor fr h) ops.toList fr) plan [] ⟨h.t,bump (jB plan) h.next⟩ ⟨h.t,bump (jB plan) h.next⟩ [] h.next
theorem aFB{op:Op}{vs:List V}{ob:Ob}{mk:Pos→V}(e0:Bv P op vs=some (ob,mk)){p i:Pos}(h:mk p=.map i):i=p∧ob=.map []:=by
 cases op<;>simp only [Bv] at e0<;>try (cases e0;done)
 case alloc t=>
  split at e0
  ·split at e0
   ·cases e0;cases h
   ·cases e0
  ·cases e0
 case box t x=>
  split at e0
  ·unfold akS at e0
   split at e0
   ·cases e0;cases h
   ·cases e0
  ·cases e0
 case buildSlice t len ps=>
  split at e0
  ·unfold atP at e0
   (repeat' split at e0)<;>first|(cases e0;cases h;done)|(cases e0;done)
  ·unfold Ia at e0
   (repeat' split at e0)<;>first|(unfold fD at e0;split at e0<;>first|(cases e0;cases h;done)|(cases e0;done))|(cases e0;done)
 case makeSlice t l c=>
  unfold Ij at e0
  (repeat' split at e0)<;>first|(cases e0;cases h;done)|(cases e0;done)
 case makeMap t r=>
  (repeat' split at e0)<;>first|(cases e0;cases h;exact⟨rfl,rfl⟩)|(cases e0;done)
 case convert s d x=>
  unfold Ou at e0
  (repeat' split at e0)<;>first|(cases e0;cases h;done)|(cases e0;done)
theorem avv{T:Tr}(S:Static ops Ed sb G N plan)(hst:∀i c j,(i,c,j)∈phased 0 plan→jU P e ops sb fr T i c j)(h2:(T.I.map (·.1)).Nodup)
  {i j:Nat} {p:Pos} {x y:V} (hI:(i,j,p,x,y)∈T.I) {a:Nat} (hp:(i,.ins a,j)∈phased 0 plan) (hw:Wanted ops T.E i):
  (a,j,p,.map [])∈T.A∧Bef Ed a i:=by
 obtain⟨hpa,hbef,oa,o,t,rest,hoa,hta,ho,hops,hsb⟩:=S.insA i a j hp
 refine⟨?_,hbef⟩
 obtain⟨o',ho',hcase⟩:=hst i _ j hp
 rw [ho] at ho';cases ho'
 rcases hcase with⟨_,vs,v,hsrc,_,p',x',y',rfl,_,_,hI'⟩|⟨⟨g,b,d,hg,hgd,hgv⟩,_,_⟩
 ·have:=aAD h2 hI hI' rfl
  cases this
  rw [hops] at hsrc
  obtain⟨v0,us,hvs,hsu,_⟩:=hsrc
  cases hvs
  have hut:dn t T.E=some (.map p):=by
   rcases hsu with⟨_,hf⟩|⟨hn,_⟩
   ·exact hf
   ·rw [hsb] at hn;cases hn
  obtain⟨oa',hoa',hca⟩:=hst a .alloc j hpa
  rw [hoa] at hoa';cases hoa'
  rcases hca with⟨_,vs2,v2,_,hd2,ob,mk,p2,hal,hv2,hA⟩|⟨_,hd2,_⟩
  ·have e2:=hd2 t hta
   rw [hut] at e2
   cases e2
   obtain⟨rfl,rfl⟩:=aFB hal hv2.symm
   exact hA
  ·have e2:=hd2 t hta
   rw [hut] at e2
   cases e2
 ·exfalso
  obtain⟨o',ho',hw⟩:=hw
  rw [ho] at ho';cases ho'
  rcases hw with hw|⟨g',b',d',hw1,hw2,hw3⟩
  ·rw [hg] at hw;cases hw
  ·rw [hg] at hw1;cases hw1
   rw [hgd] at hw2;cases hw2
   rcases hgv with hgv|⟨l,hgv⟩
   ·rw [hgv] at hw3;cases b<;>cases hw3
   ·rw [hgv] at hw3;cases hw3
theorem eF.draw(hm:P.follows .mixedOrders=true)(hE:∀f F,e f=some F→aJ P G f F){id:Nat}(hnd:∀o∈ops.toList,∀c,o.op≠ .defer c)(back:∀j i,Edge ops j i→j<i)(S:Static ops (Edge ops) sb G N plan):eF P keep G N (.region id ops true) (aDr P keep e ops sb plan):=by
 intro ro n Df fr h M a w hne at_
 refine amH hm jf.atJ hnd ?_
 generalize hout:aDr P keep e ops sb plan fr h=out at hne
 obtain⟨T,t⟩:=uZ hne plan [] _ _ [] [] h.next S.nodup rfl hout
 have A:Made T ops (Edge ops) plan h.next:=by
  refine⟨fun i j p ob hA=>?_,t.a2,t.a3,fun j=>?_,fun i j p x y hI=>?_,t.i2,t.i4⟩
  ·obtain⟨g1,g2,g3,g4,g5⟩:=t.a1 i j p ob hA
   exact⟨g1,g3,g4,g5⟩
  ·by_cases hj:j=0
   ·subst hj
    have hB:T.Bs 0=_:=t.tBase
    rw [hB]
    refine⟨fun x hx=>?_,t.cn⟩
    have:=t.cs x hx
    rw [show([]:List Hp).length=0 from rfl] at this
    rw [this,Zj fun y hy hj hyp=>?_]
    ·cases(Hp.get ⟨h.t,bump (jB plan) h.next⟩ x) with
     |none=>rfl
     |some o=>simp [KL]
    ·exfalso
     obtain⟨i',j',p',x',y'⟩:=y
     have hj:j'=0:=hj
     have hyp:p'=x:=hyp
     subst hj;subst hyp
     obtain⟨g1,_,_⟩:=t.i1 _ _ _ _ _ hy
     rcases g1 with⟨_,e2,fs,e3⟩|⟨a,ob,g1⟩
     ·rw [e2] at e3;cases e3
     ·exact hx a ob g1
   ·exact t.ct j (by simp;omega)
  ·obtain⟨_,⟨a,g2⟩,g3⟩:=t.i1 _ _ _ _ _ hI
   obtain⟨k1,k2⟩:=avv S t.steps t.i2 hI g2 g3
   exact⟨a,g2,k1,k2,g3⟩
 have hB0:T.Bs 0=⟨h.t,bump (jB plan) h.next⟩:=t.tBase
 have hbn:(T.Bs 0).next.nat=h.next.nat+jB plan:=by rw [hB0];exact akP _ _
 have hw:({w with drawn:=w.drawn+1}:World).heap=w.heap:=rfl
 have hr1:Rel G M (T.Bs 0) {w with drawn:=w.drawn+1}:=by
  refine(at_.rel.heap hw).sub (fun i o hi=>?_) (by rw [hbn];omega)
  rw [hB0] at hi;exact hi
 have hx1:Ext M h w M (T.Bs 0) {w with drawn:=w.drawn+1}:=by
  have hx:=Ext.refl at_.rel
  refine⟨hx.le,by rw [hbn];omega,rfl,rfl,rfl,Nat.le_refl _,fun _ _ _=>rfl,fun i o L hi=>?_,fun i _ hi=>?_,fun i o L hi=>?_,hx.none⟩
  ·rw [hB0] at hi;exact hx.own i o L hi
  ·rw [hB0];exact hi
  ·rw [hB0] at hi;exact hx.all i o L hi
 have hL0:∀i,(Array.replicate ops.size false).getD i false=false:=fun i=>by
  rw [Array.getD_eq_getD_getElem?,Array.getElem?_replicate];split<;>rfl
 have I0:Inv T ops (Edge ops) plan keep fr G N Df M h w (Array.replicate ops.size false) M (T.Bs 0) 0 a {w with drawn:=w.drawn+1}:=by
  refine⟨by simp,fun i k _ hk=>?_,Nat.zero_le _,fun i j' _=>?_,hr1,rfl,fun i j' p ob _ hl=>?_,fun _ _=>rfl,fun i j' p ob hA _=>?_,fun i j' p ob hA _=>?_,fun i o d v hl=>?_,fun t' v _ hv=>at_.fr t' v hv,at_.size,at_.plain,hx1⟩
  ·rw [hL0] at hk;cases hk
  ·rw [hL0];simp
  ·rw [hL0] at hl;cases hl
  ·obtain⟨g1,g2,_⟩:=t.a1 i j' p ob hA
   refine⟨?_,by rw [hbn];exact g2⟩
   cases hg:(T.Bs 0).get p with
   |none=>rfl
   |some o'=>
    rw [hB0] at hg
    obtain⟨L,hL,_⟩:=at_.rel.ob p o' hg
    have:=at_.rel.lt_next hL
    omega
  ·obtain⟨g1,g2,_⟩:=t.a1 i j' p ob hA
   exact at_.rel.fresh p g1
  ·rw [hL0] at hl;cases hl
 refine any_ok hE back S A t.steps ?_ ops.size _ M (T.Bs 0) 0 a _ (by unfold left;exact Nat.le_trans List.countP_le_length (by simp)) I0
 intro L M' f j a' w' I hall
 have hfin:=t.out
 simp only [List.length_nil,Nat.zero_add] at hfin
 obtain⟨fr',hk,hfr⟩:=ahR hne hfin
 have hj:j=bQ plan:=by
  rcases Nat.lt_or_ge j (bQ plan) with h1|h1
  ·obtain⟨i2,hp2,hi2⟩:=S.heavyAt j h1
   have:=(I.ph i2 j hp2).1 (hall i2 hi2)
   omega
  ·have:=I.jle;omega
 subst hj
 have hlt:∀{i c j'},(i,c,j')∈phased 0 plan→i<ops.size:=fun{i c j'} hp=>by
  obtain⟨o,ho,_⟩:=t.steps i c j' hp
  exact(Array.getElem?_eq_some_iff.1 ho).1
 have hC:∀x,(T.Cs (bQ plan)).get x=f.get x:=fun x=>by
  by_cases hx:∃i ob,(i,bQ plan,x,ob)∈T.A
  ·obtain⟨i,ob,hA⟩:=hx
   obtain⟨_,g2,g3,_⟩:=A.a1 _ _ _ _ hA
   rw [g3,I.f1 _ _ _ _ hA (hall i (hlt g2)) (Nat.le_refl _)]
   rw [Gt (b:=fun _=>true) (b':=fun k=>L.getD k false) fun y hy _ _=>by
    obtain⟨i2,j2,p2,x2,y2⟩:=y
    obtain⟨a2,k1,_⟩:=A.i1 _ _ _ _ _ hy
    exact(hall i2 (hlt k1)).symm]
  ·rw [(A.ct _).1 x (fun i ob hA=>hx ⟨i,ob,hA⟩)]
   refine(I.f2 x fun i j' ob hA _ hj'=>?_).symm
   obtain⟨_,g2,_⟩:=A.a1 _ _ _ _ hA
   have:=(tK g2).1
   have hje:j'=bQ plan:=by omega
   subst hje
   exact hx ⟨i,ob,hA⟩
 have hCn:(T.Cs (bQ plan)).next=f.next:=by rw [(A.ct _).2,I.nx]
 rw [←hk]
 refine⟨M',⟨I.rel.congr hC hCn,fun t' v hv=>?_,I.size,I.plain⟩,I.ext.congr hC hCn⟩
 rcases hfr t' v hv with⟨o,ho,hd,hkp,hE'⟩|⟨hno,hold⟩
 ·obtain⟨i,hi,hio⟩:=List.getElem_of_mem ho
  have hi':i<ops.size:=by simpa using hi
  have hoi:ops[i]?=some o:=by rw [Array.getElem?_eq_getElem hi'];rw [←hio];simp
  exact⟨hkp,I.e1 i o t' v (hall i hi') hoi hd hE'⟩
 ·refine I.e2 t' v (fun i o _ ho hd=>?_) hold
  have h1:=hno o (by have:=Array.mem_of_getElem? ho;simpa using this) hd
  have h2:=(at_.fr t' v hold).1
  rw [h1] at h2;cases h2
end
end Go.Vm

namespace Go.Vm
noncomputable section
variable{ops:Array Oper}{G N:Nat}
def aNJ(ms:List Nat)(o:Oper):Nat:=o.after.toList.foldl (fun s e=>match Region.binds .any e with
 |true=>Nat.lor s (Nat.lor (Nat.shiftLeft 1 e.on) (ms.getD e.on 0))
 |false=>s) 0
def zD(ms:List Nat)(i' i:Nat):Bool:=Nat.testBit (ms.getD i 0) i'
def each(ops:Array Oper)(p:Nat→Oper→Bool):Bool:=(List.range ops.size).all fun i=>(match ops[i]? with|some o=>p i o|none=>true)
theorem sW{p:Nat→Oper→Bool}(h:each ops p=true){i:Nat}{o:Oper}(ho:ops[i]?=some o):p i o=true:=by
 simp only [each,List.all_eq_true,List.mem_range] at h
 have:=h i (Array.getElem?_eq_some_iff.1 ho).1
 rw [ho] at this;exact this
def Ze(ops:Array Oper)(ms:List Nat):Bool:=each ops fun i o=>Nat.beq (ms.getD i 0) (aNJ ms o)&&o.after.toList.all fun e=>match Region.binds .any e with|true=>Nat.blt e.on i|false=>true
theorem aaT{ms:List Nat}(h:Ze ops ms=true){j i:Nat}(he:Edge ops j i):j<i:=by
 obtain⟨o,e,ho,hm,hb,rfl⟩:=he
 have:=sW h ho
 simp only [Bool.and_eq_true,List.all_eq_true] at this
 have:=this.2 e (by simpa using hm)
 rw [hb] at this
 simpa [Nat.blt_eq] using this
theorem arV(ms:List Nat):∀(l:List _root_.Go.Edge) (s j:Nat),Nat.testBit (l.foldl (fun s e=>match Region.binds .any e with
 |true=>Nat.lor s (Nat.lor (Nat.shiftLeft 1 e.on) (ms.getD e.on 0))
 |false=>s) s) j=true→Nat.testBit s j=true∨∃e∈l,Region.binds .any e=true∧(e.on=j∨Nat.testBit (ms.getD e.on 0) j=true)
 | [],s,j,h=>.inl h
 |e::l,s,j,h=>by
  rcases arV ms l _ j h with h|⟨e',he',hb,h⟩
  ·simp only [] at h
   split at h
   ·rename_i hb
    rw [show ∀a b,Nat.lor a b=a|||b from fun _ _=>rfl,show ∀a b,Nat.lor a b=a|||b from fun _ _=>rfl,Nat.testBit_or,Nat.testBit_or] at h
    simp only [Bool.or_eq_true] at h
    rcases h with h|h|h
    ·exact .inl h
    ·refine .inr ⟨e,by simp,hb,.inl ?_⟩
     rw [show Nat.shiftLeft 1 e.on=1<<<e.on from rfl,Nat.one_shiftLeft,Nat.testBit_two_pow] at h
     simpa using h
    ·exact .inr ⟨e,by simp,hb,.inr h⟩
   ·exact .inl h
  ·exact .inr ⟨e',by simp [he'],hb,h⟩
theorem kF{ms:List Nat}(h:Ze ops ms=true):∀{i j:Nat},i<ops.size→zD ms j i=true→Bef (Edge ops) j i:=by
 intro i
 induction i using Nat.strongRecOn with
 |_ i ih=>
  intro j hi hs
  have ho:=Array.getElem?_eq_getElem hi
  have h1:=sW h ho
  simp only [Bool.and_eq_true] at h1
  unfold zD at hs
  rw [Nat.eq_of_beq_eq_true h1.1] at hs
  rcases arV ms _ 0 j hs with h2|⟨e,he,hb,h2⟩
  ·simp at h2
  ·have hed:Edge ops e.on i:=⟨_,e,ho,by simpa using he,hb,rfl⟩
   have hlt:=aaT h hed
   rcases h2 with h2|h2
   ·subst h2;exact .one hed
   ·exact .step (ih e.on hlt (by omega) h2) hed
def nN:Cls→Bool
 | .heavy=>true
 |_=>false
def nodupB:List Nat→Bool
 | []=>true
 |x::l=>l.all (fun y=>!Nat.beq x y)&&nodupB l
def nH(sb:Nat→Nat→Bool)(x y:Nat×Cls×Nat):Bool:=match nN y.2.1 with
 |false=>true
 |true=>(match x.2.1 with
  | .heavy=>(match Nat.blt x.2.2 y.2.2 with
   |true=>sb x.1 y.1
   |false=>(match Nat.beq x.2.2 y.2.2 with|true=>Nat.beq x.1 y.1|false=>true))
  | .alloc=>(match Nat.ble x.2.2 y.2.2 with|true=>sb x.1 y.1|false=>true)
  | .read n=>(match Nat.ble x.2.2 y.2.2 with
   |true=>sb x.1 y.1
   |false=>(match Nat.blt (y.2.2+n) x.2.2 with|true=>sb y.1 x.1|false=>true))
  | .own _=>(match Nat.ble x.2.2 y.2.2 with|true=>sb x.1 y.1|false=>true)
  | .ins _=>(match Nat.ble x.2.2 y.2.2 with|true=>sb x.1 y.1|false=>true)
  | .pure=>true)
def ownB(ops:Array Oper)(sb:Nat→Nat→Bool)(pl:List (Nat×Cls×Nat))(x:Nat×Cls×Nat):Bool:=match x.2.1 with
 | .own a=>(match ops[a]?,ops[x.1]? with
  |some oa,some o=>(match oa.dst,o.op.operands.toList with
   |some t,[.tmp u]=>Nat.beq t u&&(HY ops sb x.1 t&&(sb a x.1&&pl.any fun y=>(match y.2.1 with| .alloc=>Nat.beq y.1 a&&Nat.beq y.2.2 x.2.2|_=>false)))
   |_,_=>false)
  |_,_=>false)
 |_=>true
def aDh(ops:Array Oper)(sb:Nat→Nat→Bool)(pl:List (Nat×Cls×Nat))(x:Nat×Cls×Nat):Bool:=match x.2.1 with
 | .ins a=>(match ops[a]?,ops[x.1]? with
  |some oa,some o=>(match oa.dst,o.op.operands.toList with
   |some t,.tmp u::_=>Nat.beq t u&&(HY ops sb x.1 t&&(sb a x.1&&pl.any fun y=>(match y.2.1 with| .alloc=>Nat.beq y.1 a&&Nat.beq y.2.2 x.2.2|_=>false)))
   |_,_=>false)
  |_,_=>false)
 |_=>true
def ahW(o:Oper)(t:Nat):Bool:=match o.dst with|some d=>Nat.beq d t|none=>false
def aeP(ops:Array Oper)(ms:List Nat)(G N:Nat)(plan:Plan):Bool:=
 Ze ops ms&&(nodupB (plan.map (·.1))&&((List.range ops.size).all (fun i=>(plan.map (·.1)).any (Nat.beq i))&&(plan.all (fun x=>Nat.blt x.1 ops.size)&&
  ((phased 0 plan).all (fun x=>(phased 0 plan).all (nH (zD ms) x))&&
  (each ops (fun i o=>match o.guard with|some (g,_)=>zD ms g i|none=>true)&&
  (each ops (fun i o=>match o.dst with|some t=>each ops (fun i' o'=>match ahW o' t with|true=>Nat.beq i i'|false=>true)|none=>true)&&
  (each ops (fun i o=>o.op.operands.toList.all fun x=>match x with
   | .tmp t=>(match HY ops (zD ms) i t with
    |true=>true
    |false=>each ops fun i' o'=>(match ahW o' t with|true=>Nat.beq i i'||zD ms i i'|false=>true))
   |_=>true)&&
  (ops.toList.all (oH G N)&&((phased 0 plan).all (ownB ops (zD ms) (phased 0 plan))&&(phased 0 plan).all (aDh ops (zD ms) (phased 0 plan)))))))))))
theorem ae1:∀{l:List Nat},nodupB l=true→l.Nodup
 | [],_=>List.nodup_nil
 |x::l,h=>by
  simp only [nodupB,Bool.and_eq_true,List.all_eq_true,Bool.not_eq_true'] at h
  refine List.nodup_cons.2 ⟨fun hm=>?_,ae1 h.2⟩
  have:=h.1 x hm
  exact absurd rfl (Nat.ne_of_beq_eq_false this)
theorem Bc{j:Nat}:∀{j₀:Nat} {l:Plan},j₀≤j→j<j₀+bQ l→∃i,(i,.heavy,j)∈phased j₀ l
 |j₀,[],h1,h2=>by simp [bQ] at h2;omega
 |j₀,(i,c)::l,h1,h2=>by
  cases c with
  |heavy=>
   by_cases e:j=j₀
   ·subst e;exact⟨i,by simp [phased]⟩
   ·obtain⟨i',h⟩:=Bc (j:=j) (j₀:=j₀+1) (l:=l) (by omega) (by simp only [bQ] at h2;omega)
    exact⟨i',List.mem_cons_of_mem _ h⟩
  |pure=>
   obtain⟨i',h⟩:=Bc (j:=j) (j₀:=j₀) (l:=l) h1 (by simpa only [bQ] using h2)
   exact⟨i',List.mem_cons_of_mem _ h⟩
  |read n=>
   obtain⟨i',h⟩:=Bc (j:=j) (j₀:=j₀) (l:=l) h1 (by simpa only [bQ] using h2)
   exact⟨i',List.mem_cons_of_mem _ h⟩
  |alloc=>
   obtain⟨i',h⟩:=Bc (j:=j) (j₀:=j₀) (l:=l) h1 (by simpa only [bQ] using h2)
   exact⟨i',List.mem_cons_of_mem _ h⟩
  |own a=>
   obtain⟨i',h⟩:=Bc (j:=j) (j₀:=j₀) (l:=l) h1 (by simpa only [bQ] using h2)
   exact⟨i',List.mem_cons_of_mem _ h⟩
  |ins a=>
   obtain⟨i',h⟩:=Bc (j:=j) (j₀:=j₀) (l:=l) h1 (by simpa only [bQ] using h2)
   exact⟨i',List.mem_cons_of_mem _ h⟩
theorem oD{i:Nat}:∀{j₀:Nat} {l:Plan},i∈l.map (·.1)→∃c j,(i,c,j)∈phased j₀ l
 |j₀,(i',c)::l,h=>by
  rw [List.map_cons] at h
  rcases List.mem_cons.1 h with h1|h1
  ·cases h1;exact⟨c,j₀,by simp [phased]⟩
  ·cases c with
   |heavy=>obtain⟨c',j,h⟩:=oD (j₀:=j₀+1) h1;exact⟨c',j,List.mem_cons_of_mem _ h⟩
   |pure=>obtain⟨c',j,h⟩:=oD (j₀:=j₀) h1;exact⟨c',j,List.mem_cons_of_mem _ h⟩
   |read n=>obtain⟨c',j,h⟩:=oD (j₀:=j₀) h1;exact⟨c',j,List.mem_cons_of_mem _ h⟩
   |alloc=>obtain⟨c',j,h⟩:=oD (j₀:=j₀) h1;exact⟨c',j,List.mem_cons_of_mem _ h⟩
   |own a=>obtain⟨c',j,h⟩:=oD (j₀:=j₀) h1;exact⟨c',j,List.mem_cons_of_mem _ h⟩
   |ins a=>obtain⟨c',j,h⟩:=oD (j₀:=j₀) h1;exact⟨c',j,List.mem_cons_of_mem _ h⟩
theorem aa6{o:Oper}{t:Nat}(h:o.dst=some t):ahW o t=true:=by simp [ahW,h]
theorem aEP{ms:List Nat}{plan:Plan}(h:aeP ops ms G N plan=true):Static ops (Edge ops) (zD ms) G N plan:=by
 simp only [aeP,Bool.and_eq_true] at h
 obtain⟨h1,h2,h3,h4,h5,h6,h7,h8,h9,h10,h11⟩:=h
 have hlt:∀{i c j},(i,c,j)∈phased 0 plan→i<ops.size:=fun{i c j} hm=>by
  obtain⟨⟨i',c'⟩,hm',rfl⟩:=List.mem_map.1 (xE hm)
  have:=List.all_eq_true.1 h4 _ hm'
  simpa [Nat.blt_eq] using this
 have pr:∀x y,x∈phased 0 plan→y∈phased 0 plan→nH (zD ms) x y=true:=fun x y hx hy=>
  List.all_eq_true.1 (List.all_eq_true.1 h5 x hx) y hy
 refine⟨fun i hi=>?_,ae1 h2,fun j hj=>?_,fun i j i' j' a b hl=>?_,fun i i' j a b=>?_,fun i j i' j' a b hl=>?_,fun i n j i' j' a b hl=>?_,fun i n j i' j' a b hl=>?_,fun i n j i' j' a b hl=>?_,fun i x j hm=>?_,fun i n j i' j' a b hl=>?_,fun i x j hm=>?_,
  fun i o g b ho hg=>?_,fun i i' o o' t ho ho' hd hd'=>?_,fun i t hi hs=>?_,fun i o t ho hx hs i' o' ho' hd=>?_,fun o ho=>List.all_eq_true.1 h9 o ho⟩
 ·have:=List.all_eq_true.1 h3 i (List.mem_range.2 hi)
  rw [List.any_eq_true] at this
  obtain⟨k,hk,hb⟩:=this
  rw [Nat.eq_of_beq_eq_true hb]
  exact oD hk
 ·obtain⟨i,hi⟩:=Bc (j₀:=0) (l:=plan) (Nat.zero_le j) (by omega)
  exact⟨i,hi,hlt hi⟩
 ·have:=pr _ _ a b
  simp only [nH,nN,show Nat.blt j j'=true from by simpa [Nat.blt_eq] using hl] at this
  exact kF h1 (hlt b) this
 ·have:=pr _ _ a b
  have hjj:Nat.blt j j=false:=by
   cases hb:Nat.blt j j with
   |false=>rfl
   |true=>have:=Nat.le_of_ble_eq_true hb;omega
  simp only [nH,nN,hjj,show Nat.beq j j=true from Nat.beq_refl j] at this
  exact Nat.eq_of_beq_eq_true this
 ·have:=pr _ _ a b
  simp only [nH,nN,show Nat.ble j j'=true from Nat.ble_eq_true_of_le hl] at this
  exact kF h1 (hlt b) this
 ·have:=pr _ _ a b
  simp only [nH,nN,show Nat.ble j j'=true from Nat.ble_eq_true_of_le hl] at this
  exact kF h1 (hlt b) this
 ·have:=pr _ _ a b
  have hn:Nat.ble j j'=false:=by
   cases hb:Nat.ble j j' with
   |false=>rfl
   |true=>have:=Nat.le_of_ble_eq_true hb;omega
  simp only [nH,nN,hn,show Nat.blt (j'+n) j=true from by simpa [Nat.blt_eq] using hl] at this
  exact kF h1 (hlt a) this
 ·have:=pr _ _ a b
  simp only [nH,nN,show Nat.ble j j'=true from Nat.ble_eq_true_of_le hl] at this
  exact kF h1 (hlt b) this
 ·have:=List.all_eq_true.1 h10 _ hm
  unfold ownB at this
  simp only [] at this
  split at this
  ·rename_i oa o hoa ho
   split at this
   ·rename_i t u hta hops
    simp only [Bool.and_eq_true] at this
    obtain⟨e1,e2,e3,e4⟩:=this
    have e1:=Nat.eq_of_beq_eq_true e1
    subst e1
    rw [List.any_eq_true] at e4
    obtain⟨⟨y1,y2,y3⟩,hy,e4⟩:=e4
    simp only [] at e4
    split at e4
    ·simp only [Bool.and_eq_true] at e4
     have h1y:=Nat.eq_of_beq_eq_true e4.1
     have h2y:=Nat.eq_of_beq_eq_true e4.2
     subst h1y
     subst h2y
     exact⟨hy,kF h1 (hlt hm) e3,oa,o,t,hoa,hta,ho,hops,e2⟩
    ·cases e4
   ·cases this
  ·cases this
 ·have:=pr _ _ a b
  simp only [nH,nN,show Nat.ble j j'=true from Nat.ble_eq_true_of_le hl] at this
  exact kF h1 (hlt b) this
 ·have:=List.all_eq_true.1 h11 _ hm
  unfold aDh at this
  simp only [] at this
  split at this
  ·rename_i oa o hoa ho
   split at this
   ·rename_i t u rest hta hops
    simp only [Bool.and_eq_true] at this
    obtain⟨e1,e2,e3,e4⟩:=this
    have e1:=Nat.eq_of_beq_eq_true e1
    subst e1
    rw [List.any_eq_true] at e4
    obtain⟨⟨y1,y2,y3⟩,hy,e4⟩:=e4
    simp only [] at e4
    split at e4
    ·simp only [Bool.and_eq_true] at e4
     have h1y:=Nat.eq_of_beq_eq_true e4.1
     have h2y:=Nat.eq_of_beq_eq_true e4.2
     subst h1y
     subst h2y
     exact⟨hy,kF h1 (hlt hm) e3,oa,o,t,rest,hoa,hta,ho,hops,e2⟩
    ·cases e4
   ·cases this
  ·cases this
 ·have:=sW h6 ho
  simp only [hg] at this
  exact kF h1 (Array.getElem?_eq_some_iff.1 ho).1 this
 ·have:=sW h7 ho
  simp only [hd] at this
  have:=sW this ho'
  simp only [aa6 hd'] at this
  exact Nat.eq_of_beq_eq_true this
 ·unfold HY at hs
  rw [List.any_eq_true] at hs
  obtain⟨i',hi',hs⟩:=hs
  split at hs
  ·rename_i o' ho'
   split at hs
   ·rename_i d hd
    split at hs
    ·rename_i hb
     exact⟨i',o',ho',by rw [hd,Nat.eq_of_beq_eq_true hb],kF h1 hi hs⟩
    ·cases hs
   ·cases hs
  ·cases hs
 ·have:=sW h8 ho
  have:=List.all_eq_true.1 this _ hx
  simp only [hs] at this
  have:=sW this ho'
  simp only [aa6 hd,Bool.or_eq_true] at this
  rcases this with h|h
  ·exact .inl (Nat.eq_of_beq_eq_true h)
  ·exact .inr (kF h1 (Array.getElem?_eq_some_iff.1 ho').1 h)
theorem ay1{ms:List Nat}{plan:Plan}(h:aeP ops ms G N plan=true):∀j i,Edge ops j i→j<i:=by
 unfold aeP at h
 rw [Bool.and_eq_true] at h
 exact fun j i he=>aaT h.1 he
end
end Go.Vm

namespace Go.Vm
noncomputable section
abbrev cO:=Nat→Option (List Nat×Plan)
end
end Go.Vm

namespace Go.Vm
noncomputable section
variable{ops:Array Oper}{G N:Nat}
def ahB(ops:Array Oper)(sb sb':Nat→Nat→Bool)(G N:Nat)(plan:Plan):Bool:=
 (nodupB (plan.map (·.1))&&((List.range ops.size).all (fun i=>(plan.map (·.1)).any (Nat.beq i))&&(plan.all (fun x=>Nat.blt x.1 ops.size)&&
  ((phased 0 plan).all (fun x=>(phased 0 plan).all (nH sb' x))&&
  (each ops (fun i o=>match o.guard with|some (g,_)=>sb g i|none=>true)&&
  (each ops (fun i o=>match o.dst with|some t=>each ops (fun i' o'=>match ahW o' t with|true=>Nat.beq i i'|false=>true)|none=>true)&&
  (each ops (fun i o=>o.op.operands.toList.all fun x=>match x with
   | .tmp t=>(match HY ops sb i t with
    |true=>true
    |false=>each ops fun i' o'=>(match ahW o' t with|true=>Nat.beq i i'||sb i i'|false=>true))
   |_=>true)&&
  (ops.toList.all (oH G N)&&((phased 0 plan).all (ownB ops sb (phased 0 plan))&&(phased 0 plan).all (aDh ops sb (phased 0 plan)))))))))))
theorem arw{Ed:Nat→Nat→Prop}{sb sb':Nat→Nat→Bool}{plan:Plan}(hsb:∀{i j},i<ops.size→sb j i=true→Bef Ed j i)(hsp:∀{i j},i<ops.size→sb' j i=true→Bef Ed j i)
  (h:ahB ops sb sb' G N plan=true):Static ops Ed sb G N plan:=by
 simp only [ahB,Bool.and_eq_true] at h
 obtain⟨h2,h3,h4,h5,h6,h7,h8,h9,h10,h11⟩:=h
 have hlt:∀{i c j},(i,c,j)∈phased 0 plan→i<ops.size:=fun{i c j} hm=>by
  obtain⟨⟨i',c'⟩,hm',rfl⟩:=List.mem_map.1 (xE hm)
  have:=List.all_eq_true.1 h4 _ hm'
  simpa [Nat.blt_eq] using this
 have pr:∀x y,x∈phased 0 plan→y∈phased 0 plan→nH sb' x y=true:=fun x y hx hy=>
  List.all_eq_true.1 (List.all_eq_true.1 h5 x hx) y hy
 refine⟨fun i hi=>?_,ae1 h2,fun j hj=>?_,fun i j i' j' a b hl=>?_,fun i i' j a b=>?_,fun i j i' j' a b hl=>?_,fun i n j i' j' a b hl=>?_,fun i n j i' j' a b hl=>?_,fun i n j i' j' a b hl=>?_,fun i x j hm=>?_,fun i n j i' j' a b hl=>?_,fun i x j hm=>?_,
  fun i o g b ho hg=>?_,fun i i' o o' t ho ho' hd hd'=>?_,fun i t hi hs=>?_,fun i o t ho hx hs i' o' ho' hd=>?_,fun o ho=>List.all_eq_true.1 h9 o ho⟩
 ·have:=List.all_eq_true.1 h3 i (List.mem_range.2 hi)
  rw [List.any_eq_true] at this
  obtain⟨k,hk,hb⟩:=this
  rw [Nat.eq_of_beq_eq_true hb]
  exact oD hk
 ·obtain⟨i,hi⟩:=Bc (j₀:=0) (l:=plan) (Nat.zero_le j) (by omega)
  exact⟨i,hi,hlt hi⟩
 ·have:=pr _ _ a b
  simp only [nH,nN,show Nat.blt j j'=true from by simpa [Nat.blt_eq] using hl] at this
  exact hsp (hlt b) this
 ·have:=pr _ _ a b
  have hjj:Nat.blt j j=false:=by
   cases hb:Nat.blt j j with
   |false=>rfl
   |true=>have:=Nat.le_of_ble_eq_true hb;omega
  simp only [nH,nN,hjj,show Nat.beq j j=true from Nat.beq_refl j] at this
  exact Nat.eq_of_beq_eq_true this
 ·have:=pr _ _ a b
  simp only [nH,nN,show Nat.ble j j'=true from Nat.ble_eq_true_of_le hl] at this
  exact hsp (hlt b) this
 ·have:=pr _ _ a b
  simp only [nH,nN,show Nat.ble j j'=true from Nat.ble_eq_true_of_le hl] at this
  exact hsp (hlt b) this
 ·have:=pr _ _ a b
  have hn:Nat.ble j j'=false:=by
   cases hb:Nat.ble j j' with
   |false=>rfl
   |true=>have:=Nat.le_of_ble_eq_true hb;omega
  simp only [nH,nN,hn,show Nat.blt (j'+n) j=true from by simpa [Nat.blt_eq] using hl] at this
  exact hsp (hlt a) this
 ·have:=pr _ _ a b
  simp only [nH,nN,show Nat.ble j j'=true from Nat.ble_eq_true_of_le hl] at this
  exact hsp (hlt b) this
 ·have:=List.all_eq_true.1 h10 _ hm
  unfold ownB at this
  simp only [] at this
  split at this
  ·rename_i oa o hoa ho
   split at this
   ·rename_i t u hta hops
    simp only [Bool.and_eq_true] at this
    obtain⟨e1,e2,e3,e4⟩:=this
    have e1:=Nat.eq_of_beq_eq_true e1
    subst e1
    rw [List.any_eq_true] at e4
    obtain⟨⟨y1,y2,y3⟩,hy,e4⟩:=e4
    simp only [] at e4
    split at e4
    ·simp only [Bool.and_eq_true] at e4
     have h1y:=Nat.eq_of_beq_eq_true e4.1
     have h2y:=Nat.eq_of_beq_eq_true e4.2
     subst h1y
     subst h2y
     exact⟨hy,hsb (hlt hm) e3,oa,o,t,hoa,hta,ho,hops,e2⟩
    ·cases e4
   ·cases this
  ·cases this
 ·have:=pr _ _ a b
  simp only [nH,nN,show Nat.ble j j'=true from Nat.ble_eq_true_of_le hl] at this
  exact hsp (hlt b) this
 ·have:=List.all_eq_true.1 h11 _ hm
  unfold aDh at this
  simp only [] at this
  split at this
  ·rename_i oa o hoa ho
   split at this
   ·rename_i t u rest hta hops
    simp only [Bool.and_eq_true] at this
    obtain⟨e1,e2,e3,e4⟩:=this
    have e1:=Nat.eq_of_beq_eq_true e1
    subst e1
    rw [List.any_eq_true] at e4
    obtain⟨⟨y1,y2,y3⟩,hy,e4⟩:=e4
    simp only [] at e4
    split at e4
    ·simp only [Bool.and_eq_true] at e4
     have h1y:=Nat.eq_of_beq_eq_true e4.1
     have h2y:=Nat.eq_of_beq_eq_true e4.2
     subst h1y
     subst h2y
     exact⟨hy,hsb (hlt hm) e3,oa,o,t,rest,hoa,hta,ho,hops,e2⟩
    ·cases e4
   ·cases this
  ·cases this
 ·have:=sW h6 ho
  simp only [hg] at this
  exact hsb (Array.getElem?_eq_some_iff.1 ho).1 this
 ·have:=sW h7 ho
  simp only [hd] at this
  have:=sW this ho'
  simp only [aa6 hd'] at this
  exact Nat.eq_of_beq_eq_true this
 ·unfold HY at hs
  rw [List.any_eq_true] at hs
  obtain⟨i',hi',hs⟩:=hs
  split at hs
  ·rename_i o' ho'
   split at hs
   ·rename_i d hd
    split at hs
    ·rename_i hb
     exact⟨i',o',ho',by rw [hd,Nat.eq_of_beq_eq_true hb],hsb hi hs⟩
    ·cases hs
   ·cases hs
  ·cases hs
 ·have:=sW h8 ho
  have:=List.all_eq_true.1 this _ hx
  simp only [hs] at this
  have:=sW this ho'
  simp only [aa6 hd,Bool.or_eq_true] at this
  rcases this with h|h
  ·exact .inl (Nat.eq_of_beq_eq_true h)
  ·exact .inr (hsb (Array.getElem?_eq_some_iff.1 ho').1 h)
end
end Go.Vm

namespace Go.Vm
noncomputable section
variable{P:Program}{e:FuncId→Option Fun}{Ed:Nat→Nat→Prop}{ops:Array Oper}{sb:Nat→Nat→Bool}{fr:F}{keep:Nat→Bool}{G N:Nat}{Df:List Deferred}
variable{T:Tr}{plan:Plan}{M:Mp}{h f:Hp}{w:World}{L:Array Bool}{j:Nat}{a:Act}{i:Nat}{out:Out}{k:Env→Hp→Out}
theorem aFi(S:Static ops Ed sb G N plan)(t:Told P e ops sb fr k plan [] ⟨h.t,bump (jB plan) h.next⟩ ⟨h.t,bump (jB plan) h.next⟩ [] [] h.next out T):Made T ops Ed plan h.next:=by
 refine⟨fun i j p ob hA=>?_,t.a2,t.a3,fun j=>?_,fun i j p x y hI=>?_,t.i2,t.i4⟩
 ·obtain⟨g1,g2,g3,g4,g5⟩:=t.a1 i j p ob hA
  exact⟨g1,g3,g4,g5⟩
 ·by_cases hj:j=0
  ·subst hj
   have hB:T.Bs 0=_:=t.tBase
   rw [hB]
   refine⟨fun x hx=>?_,t.cn⟩
   have:=t.cs x hx
   rw [show([]:List Hp).length=0 from rfl] at this
   rw [this,Zj fun y hy hj hyp=>?_]
   ·cases(Hp.get ⟨h.t,bump (jB plan) h.next⟩ x) with
    |none=>rfl
    |some o=>simp [KL]
   ·exfalso
    obtain⟨i',j',p',x',y'⟩:=y
    have hj:j'=0:=hj
    have hyp:p'=x:=hyp
    subst hj;subst hyp
    obtain⟨g1,_,_⟩:=t.i1 _ _ _ _ _ hy
    rcases g1 with⟨_,e2,fs,e3⟩|⟨a,ob,g1⟩
    ·rw [e2] at e3;cases e3
    ·exact hx a ob g1
  ·exact t.ct j (by simp;omega)
 ·obtain⟨_,⟨a,g2⟩,g3⟩:=t.i1 _ _ _ _ _ hI
  obtain⟨k1,k2⟩:=avv S t.steps t.i2 hI g2 g3
  exact⟨a,g2,k1,k2,g3⟩
theorem aDq(S:Static ops Ed sb G N plan)(t:Told P e ops sb fr k plan [] ⟨h.t,bump (jB plan) h.next⟩ ⟨h.t,bump (jB plan) h.next⟩ [] [] h.next out T)(at_:At keep G N Df M fr h a w):
  Inv T ops Ed plan keep fr G N Df M h w (Array.replicate ops.size false) M (T.Bs 0) 0 a {w with drawn:=w.drawn+1}:=by
 have hB0:T.Bs 0=⟨h.t,bump (jB plan) h.next⟩:=t.tBase
 have hbn:(T.Bs 0).next.nat=h.next.nat+jB plan:=by rw [hB0];exact akP _ _
 have hw:({w with drawn:=w.drawn+1}:World).heap=w.heap:=rfl
 have hr1:Rel G M (T.Bs 0) {w with drawn:=w.drawn+1}:=by
  refine(at_.rel.heap hw).sub (fun i o hi=>?_) (by rw [hbn];omega)
  rw [hB0] at hi;exact hi
 have hx1:Ext M h w M (T.Bs 0) {w with drawn:=w.drawn+1}:=by
  have hx:=Ext.refl at_.rel
  refine⟨hx.le,by rw [hbn];omega,rfl,rfl,rfl,Nat.le_refl _,fun _ _ _=>rfl,fun i o L hi=>?_,fun i _ hi=>?_,fun i o L hi=>?_,hx.none⟩
  ·rw [hB0] at hi;exact hx.own i o L hi
  ·rw [hB0];exact hi
  ·rw [hB0] at hi;exact hx.all i o L hi
 have hL0:∀i,(Array.replicate ops.size false).getD i false=false:=fun i=>by
  rw [Array.getD_eq_getD_getElem?,Array.getElem?_replicate];split<;>rfl
 refine⟨by simp,fun i k _ hk=>?_,Nat.zero_le _,fun i j' _=>?_,hr1,rfl,fun i j' p ob _ hl=>?_,fun _ _=>rfl,fun i j' p ob hA _=>?_,fun i j' p ob hA _=>?_,fun i o d v hl=>?_,fun t' v _ hv=>at_.fr t' v hv,at_.size,at_.plain,hx1⟩
 ·rw [hL0] at hk;cases hk
 ·rw [hL0];simp
 ·rw [hL0] at hl;cases hl
 ·obtain⟨g1,g2,_⟩:=t.a1 i j' p ob hA
  refine⟨?_,by rw [hbn];exact g2⟩
  cases hg:(T.Bs 0).get p with
  |none=>rfl
  |some o'=>
   rw [hB0] at hg
   obtain⟨L,hL,_⟩:=at_.rel.ob p o' hg
   have:=at_.rel.lt_next hL
   omega
 ·obtain⟨g1,g2,_⟩:=t.a1 i j' p ob hA
  exact at_.rel.fresh p g1
 ·rw [hL0] at hl;cases hl
theorem avO(S:Static ops Ed sb G N plan)(A:Made T ops Ed plan h.next)(hst:∀i c j,(i,c,j)∈phased 0 plan→jU P e ops sb fr T i c j)(at_:At keep G N Df M fr h a w)(hne:out≠ .bad)
  (hfin:vH keep T.E (fun fr=>.nor fr (T.Cs (bQ plan))) ops.toList fr=out):
  ∀L M' f j a' w',Inv T ops Ed plan keep fr G N Df M h w L M' f j a' w'→(∀i,i<ops.size→L.getD i false=true)→jf keep G N Df M h w out .normal a' w':=by
 intro L M' f j a' w' I hall
 obtain⟨fr',hk,hfr⟩:=ahR hne hfin
 have hj:j=bQ plan:=by
  rcases Nat.lt_or_ge j (bQ plan) with h1|h1
  ·obtain⟨i2,hp2,hi2⟩:=S.heavyAt j h1
   have:=(I.ph i2 j hp2).1 (hall i2 hi2)
   omega
  ·have:=I.jle;omega
 subst hj
 have hlt:∀{i c j'},(i,c,j')∈phased 0 plan→i<ops.size:=fun{i c j'} hp=>by
  obtain⟨o,ho,_⟩:=hst i c j' hp
  exact(Array.getElem?_eq_some_iff.1 ho).1
 have hC:∀x,(T.Cs (bQ plan)).get x=f.get x:=fun x=>by
  by_cases hx:∃i ob,(i,bQ plan,x,ob)∈T.A
  ·obtain⟨i,ob,hA⟩:=hx
   obtain⟨_,g2,g3,_⟩:=A.a1 _ _ _ _ hA
   rw [g3,I.f1 _ _ _ _ hA (hall i (hlt g2)) (Nat.le_refl _)]
   rw [Gt (b:=fun _=>true) (b':=fun k=>L.getD k false) fun y hy _ _=>by
    obtain⟨i2,j2,p2,x2,y2⟩:=y
    obtain⟨a2,k1,_⟩:=A.i1 _ _ _ _ _ hy
    exact(hall i2 (hlt k1)).symm]
  ·rw [(A.ct _).1 x (fun i ob hA=>hx ⟨i,ob,hA⟩)]
   refine(I.f2 x fun i j' ob hA _ hj'=>?_).symm
   obtain⟨_,g2,_⟩:=A.a1 _ _ _ _ hA
   have:=(tK g2).1
   have hje:j'=bQ plan:=by omega
   subst hje
   exact hx ⟨i,ob,hA⟩
 have hCn:(T.Cs (bQ plan)).next=f.next:=by rw [(A.ct _).2,I.nx]
 rw [←hk]
 refine⟨M',⟨I.rel.congr hC hCn,fun t' v hv=>?_,I.size,I.plain⟩,I.ext.congr hC hCn⟩
 rcases hfr t' v hv with⟨o,ho,hd,hkp,hE'⟩|⟨hno,hold⟩
 ·obtain⟨i,hi,hio⟩:=List.getElem_of_mem ho
  have hi':i<ops.size:=by simpa using hi
  have hoi:ops[i]?=some o:=by rw [Array.getElem?_eq_getElem hi'];rw [←hio];simp
  exact⟨hkp,I.e1 i o t' v (hall i hi') hoi hd hE'⟩
 ·refine I.e2 t' v (fun i o _ ho hd=>?_) hold
  have h1:=hno o (by have:=Array.mem_of_getElem? ho;simpa using this) hd
  have h2:=(at_.fr t' v hold).1
  rw [h1] at h2;cases h2
end
end Go.Vm
