/- Part of the claim: facts that its last text uses. No conditions. -/
import Derived.Test.YtfaolchpaooboaaGreatDoorJbAG
set_option linter.all false
namespace Go.Vm
noncomputable section
variable{P:Program}{G N:Nat}{M M':Mp}{h h':Hp}{w w':World}{keep:Nat→Bool}{e:FuncId→Option Fun}{r:V}
theorem Pos.qI(p:Pos):Pos.of p.nat=p:=Pos.fU (Pos.dm _)
def H6:Obj→Bool
 | .loop _=>true
 | .deferred _=>true
 |_=>false
theorem dV.hidden{L:Loc}{o:Ob}(hr:dV M L w o){b:Obj}(hb:w.heap[L.blk]?=some b):H6 b=false:=by
 cases o with
 |cells wr cs=>obtain⟨c,el,fr,a,_⟩:=hr;rw [a] at hb;cases hb;rfl
 |map es=>obtain⟨en,ck,a,_⟩:=hr;rw [a] at hb;cases hb;rfl
 |iter s p=>rw [hr.2] at hb;cases hb;rfl
 |bytes cs=>obtain⟨c,el,fr,a,_⟩:=hr;rw [a] at hb;cases hb;rfl
theorem Rel.hidden(hr:Rel G M h w){b:Nat}{ob:Obj}(hb:w.heap[b]?=some ob)(hh:H6 ob=true){i:Pos}{o:Ob}{L:Loc}(hi:h.get i=some o)(hL:M i=some L):L.blk≠b:=by
 intro e
 subst e
 obtain⟨L',hL',ho⟩:=hr.ob i o hi
 rw [hL] at hL';cases hL'
 rw [ho.hidden hb] at hh;cases hh
theorem Rel.kept(hr:Rel G M h w)(x:Ext M h w M' h' w'){b:Nat}{ob:Obj}(hb:w.heap[b]?=some ob)(hh:H6 ob=true):w'.heap[b]?=some ob:=by
 rw [x.same b (Array.getElem?_eq_some_iff.1 hb).1 fun i o L hi _ hL=>hr.hidden hb hh hi hL]
 exact hb
theorem Rel.putObj(hr:Rel G M h w){b:Nat}{ob:Obj}(hb:w.heap[b]?=some ob)(hh:H6 ob=true)(o':Obj):Rel G M h (w.putObj b o'):=by
 refine⟨fun i o hi=>?_,hr.fresh,hr.sep,hr.gl⟩
 obtain⟨L,hL,ho⟩:=hr.ob i o hi
 exact⟨L,hL,ho.of_block (World.putObj_heap_other (hr.hidden hb hh hi hL))⟩
theorem Rel.pq(hr:Rel G M h w)(ob:Obj):Rel G M h (w.alloc ob):=by
 refine⟨fun i o hi=>?_,hr.fresh,hr.sep,hr.gl⟩
 obtain⟨L,hL,ho⟩:=hr.ob i o hi
 refine⟨L,hL,ho.of_block ?_⟩
 show(w.heap.push ob)[L.blk]?=w.heap[L.blk]?
 rw [Array.getElem?_push,if_neg (by have:=ho.lt;omega)]
theorem Ext.putObj{M0:Mp}{h0:Hp}{w0:World}(x:Ext M0 h0 w0 M h w){b:Nat}(hb:w0.heap.size≤b)(o':Obj):Ext M0 h0 w0 M h (w.putObj b o'):=
 ⟨x.le,x.next,x.os,x.tape,x.output,by rw [World.putObj_size];exact x.size,fun k hk hno=>by rw [World.putObj_heap_other (by omega)];exact x.same k hk hno,x.own,x.old,x.all,x.none⟩
theorem Ext.pq{M0:Mp}{h0:Hp}{w0:World}(x:Ext M0 h0 w0 M h w)(ob:Obj):Ext M0 h0 w0 M h (w.alloc ob):=
 ⟨x.le,x.next,x.os,x.tape,x.output,by have:=x.size;show w0.heap.size≤(w.heap.push ob).size;rw [Array.size_push];omega,fun k hk hno=>by
  rw [←x.same k hk hno]
  show(w.heap.push ob)[k]?=w.heap[k]?
  have:=x.size
  rw [Array.getElem?_push,if_neg (by omega)],x.own,x.old,x.all,x.none⟩
theorem aj6(hr:Rel G M h w)(L:Loc):Rel G (M.add h.next L) (aF 1 h) w∧Ext M h w (M.add h.next L) (aF 1 h) w:=by
 have hnone:M h.next=none:=hr.fresh _ (Nat.le_refl _)
 have hle:=Mp.qQ hnone L
 have hnx:(aF 1 h).next=h.next.succ:=rfl
 have hg:∀i,(aF 1 h).get i=h.get i:=fun _=>rfl
 refine⟨⟨fun i o hi=>?_,fun i hi=>?_,fun i j o p A B hn hi hj ho hA hB=>?_,fun g hgl=>?_⟩,⟨hle,?_,rfl,rfl,rfl,Nat.le_refl _,fun _ _ _=>rfl,fun i o A hi ho hA=>?_,fun i _ hn=>hn,fun i o A hi hA=>?_,fun i hi hn=>?_⟩⟩
 ·obtain⟨A,hA,ho⟩:=hr.ob i o hi
  exact⟨A,hle _ _ hA,ho.mono hle⟩
 ·rw [hnx,Pos.dS] at hi
  rw [M.dM (fun e=>by rw [e] at hi;omega)]
  exact hr.fresh i (by omega)
 ·obtain⟨A',hA',_⟩:=hr.ob i o hi
  obtain⟨B',hB',_⟩:=hr.ob j p hj
  rw [M.dM (hr.ne_next hA')] at hA
  rw [M.dM (hr.ne_next hB')] at hB
  exact hr.sep i j o p A B hn hi hj ho hA hB
 ·obtain⟨n,hn⟩:=hr.gl g hgl
  exact⟨n,hle _ _ hn⟩
 ·rw [hnx,Pos.dS];omega
 ·obtain⟨A',hA',_⟩:=hr.ob i o hi
  rw [M.dM (hr.ne_next hA')] at hA
  exact .inr ⟨i,o,A,hi,ho,hA,rfl⟩
 ·obtain⟨A',hA',_⟩:=hr.ob i o hi
  rw [M.dM (hr.ne_next hA')] at hA
  exact .inr ⟨i,o,A,hi,hA,rfl⟩
 ·rw [M.dM (fun e=>by rw [e] at hi;omega)];exact hn
inductive Jmp where
 |ret
 |ex (i:Nat)
def Jmp.code:Jmp→Code
 | .ret=>.ret
 | .ex i=>.exit i
inductive YR where
 |go (h:Hp)
 |stop (j:Jmp) (h:Hp)
 |bad
def jF(L:Loop)(p:Option Jmp):Loop:={L with state:=(match p with|none=>.ready|some _=>.done),pending:=p.map Jmp.code}
structure Rng where
 M:Mp
 h:Hp
 w:World
 kp:Pos
 l:Nat
 L:Loop
structure Goes (B:Rng) (p:Option Jmp) (M:Mp) (h:Hp) (w:World):Prop where
 ext:Ext B.M B.h B.w M h w
 ky:M B.kp=some ⟨B.l,0,0⟩
 hl:B.w.heap.size<B.l
 st:w.heap[B.l]?=some (.loop (jF B.L p))
 mrk:w.heap[B.w.heap.size]?=some (.deferred (some []))
theorem Goes.step{B:Rng}{p:Option Jmp}(g:Goes B p M h w)(hr:Rel G M h w)(x:Ext M h w M' h' w'):Goes B p M' h' w':=
 ⟨g.ext.trans x,x.le _ _ g.ky,g.hl,hr.kept x g.st rfl,hr.kept x g.mrk rfl⟩
def zM(keep:Nat→Bool):List Nat→List V→F→Option F
 | [],x,fr=>(match x with| []=>some fr|_::_=>none)
 |t::ts,x,fr=>(match x with
  | []=>none
  |v::vs=>(match keep t with|true=>zM keep ts vs (fr.set (some v) (Pos.of t))|false=>none))
def zB(keep:Nat→Bool)(ps:List Nat)(Da Db:F→Hp→Out)(fr:F)(args:List V)(h:Hp):YR:=match zM keep ps args fr with
 |none=>.bad
 |some fr=>(match Da fr h with
  | .nor fr h=>(match Db fr h with
   | .nor _ h=>.go h
   | .ret _ h=>.stop .ret h
   | .ex i _ h=>.stop (.ex i) h
   | .bad=>.bad)
  |_=>.bad)
def aFI(Rq:Option Jmp→Hp→Prop):YR→Prop
 | .go h=>Rq none h
 | .stop j h=>Rq (some j) h
 | .bad=>False
theorem IE{keep:Nat→Bool}:∀{ps:List Nat} {args:List V} {cargs:List Value} {fr fr':F} {tmps:Array Value},zM keep ps args fr=some fr'→(∀t∈ps,t<tmps.size)→aX M args cargs→
  lW keep M fr {tmps:=tmps,defers:= []}→
  cargs.length=ps.length∧lW keep M fr' {tmps:=(ps.zip cargs).foldl (fun tmps (t,a)=>tmps.setIfInBounds t a) tmps,defers:= []}∧((ps.zip cargs).foldl (fun tmps (t,a)=>tmps.setIfInBounds t a) tmps).size=tmps.size
 | [],args,cargs,fr,fr',tmps,e0,_,ha,hf=>by
  cases args with
  |nil=>cases e0;cases(show cargs= [] from ha);exact⟨rfl,hf,rfl⟩
  |cons v vs=>cases e0
 |t::ts,args,cargs,fr,fr',tmps,e0,hlt,ha,hf=>by
  cases args with
  |nil=>cases e0
  |cons v vs=>
   obtain⟨c,cs,rfl,hv,hvs⟩:=aX.cons_inv ha
   simp only [zM] at e0
   cases hk:keep t with
   |false=>rw [hk] at e0;cases e0
   |true=>
    rw [hk] at e0
    have ht:t<tmps.size:=hlt t (by simp)
    have hf':lW keep M (fr.set (some v) (Pos.of t)) {tmps:=tmps.setIfInBounds t c,defers:= []}:=by
     intro u x hx
     by_cases hu:u=t
     ·subst hu
      rw [T.gU] at hx;cases hx
      refine⟨hk,?_⟩
      simp only [Array.getD_eq_getD_getElem?]
      rw [Array.getElem?_setIfInBounds_self_of_lt ht]
      exact hv
     ·rw [T.iO _ (fun e=>hu (Pos.ve e))] at hx
      obtain⟨a1,a2⟩:=hf u x hx
      refine⟨a1,?_⟩
      simp only [Array.getD_eq_getD_getElem?] at a2⊢
      rw [Array.getElem?_setIfInBounds_ne (Ne.symm hu)]
      exact a2
    obtain⟨b1,b2,b3⟩:=IE (tmps:=tmps.setIfInBounds t c) e0 (fun u hu=>by rw [Array.size_setIfInBounds];exact hlt u (by simp [hu])) hvs hf'
    refine⟨by simp [b1],by simpa using b2,?_⟩
    have:(((t::ts).zip (c::cs)).foldl (fun tmps (t,a)=>tmps.setIfInBounds t a) tmps)=((ts.zip cs).foldl (fun tmps (t,a)=>tmps.setIfInBounds t a) (tmps.setIfInBounds t c)):=by simp
    rw [this,b3,Array.size_setIfInBounds]
theorem amD{B:Rng}{fr0:F}{Da Db:F→Hp→Out}(hA:bG P keep G N B.L.assign Da)(hB:bG P keep G N B.L.body Db)(hf:lW keep B.M fr0 {tmps:=B.L.tmps,defers:= []})(hN:B.L.tmps.size=N)
  (hps:∀t∈B.L.params.toList,t<N) {args:List V} {cargs:List Value} (hr:Rel G M h w) (ha:aX M args cargs) (g:Goes B none M h w) {n:Nat} {R:Ending→World→Prop}
  (hy:aFI (fun p h'=>∀M' w',M.le M'→Rel G M' h' w'→Goes B p M' h' w'→R (.returned (.bool p.isNone)) w') (zB keep B.L.params.toList Da Db fr0 args h)):
  cargs.toArray.size=B.L.params.size∧RoundIn (gX none) n P B.l B.L.fn ((B.L.params.zip cargs.toArray).foldl (fun tmps (t,a)=>tmps.setIfInBounds t a) B.L.tmps) B.L.assign B.L.body w R:=by
 unfold zB at hy
 cases e1:zM keep B.L.params.toList args fr0 with
 |none=>rw [e1] at hy;exact hy.elim
 |some fr1=>
  rw [e1] at hy
  simp only [] at hy
  obtain⟨s1,s2,s3⟩:=IE (tmps:=B.L.tmps) e1 (fun t ht=>by rw [hN];exact hps t ht) ha (hf.mono g.ext.le)
  have hz:(B.L.params.zip cargs.toArray).foldl (fun tmps (t,a)=>tmps.setIfInBounds t a) B.L.tmps=(B.L.params.toList.zip cargs).foldl (fun tmps (t,a)=>tmps.setIfInBounds t a) B.L.tmps:=by
   rw [←Array.foldl_toList];simp
  refine⟨by simpa using s1,?_⟩
  rw [hz]
  refine roundIn_of_wpIn trivial ?_
  have at0:At keep G N [] M fr1 h {tmps:=(B.L.params.toList.zip cargs).foldl (fun tmps (t,a)=>tmps.setIfInBounds t a) B.L.tmps,defers:= []} w:=⟨hr,s2,by rw [s3,hN],rfl⟩
  have hwA:=hA (some B.l) n [] fr1 h M _ w (by intro e2;rw [e2] at hy;exact hy) at0
  refine wpIn_mono hwA ?_
  intro x a1 w1 q
  cases e2:Da fr1 h with
  |bad=>rw [e2] at hy;exact hy.elim
  |ret fr2 h2=>rw [e2] at hy;exact hy.elim
  |ex i fr2 h2=>rw [e2] at hy;exact hy.elim
  |nor fr2 h2=>
   rw [e2] at hy q
   simp only [] at hy
   cases x<;>simp only [eP] at q
   obtain⟨M1,at1,x1⟩:=q
   have g1:=g.step hr x1
   refine⟨_,run_beginRound g1.st rfl,?_⟩
   have hlt:B.l<w1.heap.size:=(Array.getElem?_eq_some_iff.1 g1.st).1
   have r2:=at1.rel.putObj g1.st rfl (.loop {jF B.L none with state:=.busy})
   have hst2:(w1.putObj B.l (.loop {jF B.L none with state:=.busy})).heap[B.l]?=some (.loop {jF B.L none with state:=.busy}):=World.putObj_heap_same hlt
   have hmk2:(w1.putObj B.l (.loop {jF B.L none with state:=.busy})).heap[B.w.heap.size]?=some (.deferred (some [])):=by
    rw [World.putObj_heap_other (by have:=g.hl;omega)];exact g1.mrk
   have hx2:=g1.ext.putObj (b:=B.l) (by have:=g.hl;omega) (.loop {jF B.L none with state:=.busy})
   generalize w1.putObj B.l (.loop {jF B.L none with state:=.busy})=w2 at r2 hst2 hmk2 hx2
   have at2:At keep G N [] M1 fr2 h2 a1 w2:=⟨r2,at1.fr,at1.size,at1.plain⟩
   have hwB:=hB (some B.l) n [] fr2 h2 M1 a1 w2 (by intro e3;rw [e3] at hy;exact hy) at2
   refine wpIn_mono hwB ?_
   intro y a3 w3 q3
   have fin:∀(p:Option Jmp) M3 h3,Rel G M3 h3 w3→Ext M1 h2 w2 M3 h3 w3→(Instr.endRound B.l (p.map Jmp.code)).run P w3=.ok (.bool p.isNone) (w3.putObj B.l (.loop (jF B.L p)))∧Rel G M3 h3 (w3.putObj B.l (.loop (jF B.L p)))∧Goes B p M3 h3 (w3.putObj B.l (.loop (jF B.L p))):=by
    intro p M3 h3 r3 x3
    have hst3:=r2.kept x3 hst2 rfl
    have hlt3:B.l<w3.heap.size:=(Array.getElem?_eq_some_iff.1 hst3).1
    refine⟨?_,r3.putObj hst3 rfl _,?_⟩
    ·rw [run_endRound _ hst3]
     cases p<;>rfl
    ·refine⟨(hx2.trans x3).putObj (by have:=g.hl;omega) _,x3.le _ _ g1.ky,g.hl,World.putObj_heap_same hlt3,?_⟩
     rw [World.putObj_heap_other (by have:=g.hl;omega)]
     exact r2.kept x3 hmk2 rfl
   cases e3:Db fr2 h2 with
   |bad=>rw [e3] at hy;exact hy.elim
   |nor fr3 h3=>
    rw [e3] at hy q3
    cases y<;>simp only [eP] at q3
    obtain⟨M3,at3,x3⟩:=q3
    obtain⟨f1,f2,f3⟩:=fin none M3 h3 at3.rel x3
    exact⟨_,_,f1,hy M3 _ (Mp.le_trans x1.le x3.le) f2 f3⟩
   |ret fr3 h3=>
    rw [e3] at hy q3
    cases y<;>simp only [eP] at q3
    obtain⟨M3,at3,x3⟩:=q3
    obtain⟨f1,f2,f3⟩:=fin (some .ret) M3 h3 at3.rel x3
    exact⟨_,_,f1,hy M3 _ (Mp.le_trans x1.le x3.le) f2 f3⟩
   |ex i fr3 h3=>
    rw [e3] at hy q3
    cases y<;>simp only [eP] at q3
    obtain⟨ej,M3,at3,x3⟩:=q3
    subst ej
    obtain⟨f1,f2,f3⟩:=fin (some (.ex _)) M3 h3 at3.rel x3
    exact⟨_,_,f1,hy M3 _ (Mp.le_trans x1.le x3.le) f2 f3⟩
end
end Go.Vm
namespace Go.Vm
noncomputable section
variable{P:Program}{G N:Nat}{M M':Mp}{h h':Hp}{w w':World}{keep:Nat→Bool}{e:FuncId→Option Fun}{r:V}{B:Rng}
inductive OutI where
 |nor (fr:F) (h:Hp) (p:Option Jmp)
 |ret (fr:F) (h:Hp) (p:Option Jmp)
 |ex (i:Nat) (fr:F) (h:Hp) (p:Option Jmp)
 |bad
abbrev aUp:=F→Hp→Option Jmp→OutI
def aUr(o:Out)(p:Option Jmp):OutI:=match o with
 | .nor fr h=>.nor fr h p
 | .ret fr h=>.ret fr h p
 | .ex i fr h=>.ex i fr h p
 | .bad=>.bad
def aUH(D:F→Hp→Out):aUp:=fun fr h p=>aUr (D fr h) p
def aUD(a b:aUp):aUp:=fun fr h p=>match a fr h p with
 | .nor fr h p=>b fr h p
 | .ret fr h p=>.ret fr h p
 | .ex i fr h p=>.ex i fr h p
 | .bad=>.bad
def aUF(c:Operand)(a b:aUp):aUp:=fun fr h p=>match c with
 | .tmp t=>(match fr.get (Pos.of t) with
  |some v=>(match v with| .bool q=>(match q with|true=>a fr h p|false=>b fr h p)|_=>.bad)
  |none=>.bad)
 |_=>.bad
def aUG(id:Nat)(b:aUp):aUp:=fun fr h p=>match b fr h p with
 | .nor fr h p=>.nor fr h p
 | .ret fr h p=>.ret fr h p
 | .ex i fr h p=>(match Nat.beq i id with|true=>.nor fr h p|false=>.ex i fr h p)
 | .bad=>.bad
def aUs(b:aUp)(n:Nat):aUp:=
 Nat.rec (motive:=fun _=>aUp) (fun _ _ _=>.bad) (fun _ ih fr h p=>match b fr h p with
  | .nor fr h p=>ih fr h p
  | .ret fr h p=>.ret fr h p
  | .ex i fr h p=>.ex i fr h p
  | .bad=>.bad) n
def aUC(o:Oper):Bool:=match o.op with
 | .call c=>(match c.callee with
  | .value f=>(match f with| .tmp _=>true|_=>false)
  |_=>false)
 |_=>false
def yIdx:List Oper→Option Nat
 | []=>none
 |o::l=>(match aUC o with
  |true=>some 0
  |false=>(match yIdx l with|some j=>some (j+1)|none=>none))
def aUv(l:List Oper):Bool:=l.all fun o=>match o.guard with|none=>true|some _=>false
def aUy(o:Oper)(fr:F)(k:Nat):Option (List V):=match o.op with
 | .call c=>(match c.callee with
  | .value f=>(match wP fr (f::c.args.toList) with
   |some vs=>(match vs with
    |g::args=>(match g with
     | .func fn x y=>(match x,y with
      | .nil,.nil=>(match fn with
       | .yield k'=>(match Nat.beq k k' with|true=>some args|false=>none)
       |_=>none)
      |_,_=>none)
     |_=>none)
    | []=>none)
   |none=>none)
  |_=>none)
 |_=>none
def aUE(P:Program)(keep:Nat→Bool)(e:FuncId→Option Fun)(Y:List V→Hp→YR)(k:Nat)(ops:Array Oper):aUp:=fun fr h p=>match p with
 |some _=>.bad
 |none=>(match yIdx ops.toList with
  |none=>.bad
  |some j=>(match ops[j]? with
   |none=>.bad
   |some o=>(match aUv ops.toList with
    |false=>.bad
    |true=>(match jV P keep e ops (ops.toList.take j) [] fr h with
     | .nor fr1 h1=>(match aUy o fr1 k with
      |none=>.bad
      |some args=>(match Y args h1 with
       | .go h2=>aUr (nR keep o.dst (.bool true) [] fr1 fun env fr=>jV P keep e ops (ops.toList.drop (j+1)) env fr h2) none
       | .stop q h2=>aUr (nR keep o.dst (.bool false) [] fr1 fun env fr=>jV P keep e ops (ops.toList.drop (j+1)) env fr h2) (some q)
       | .bad=>.bad))
     |_=>.bad))))
structure AtI (keep:Nat→Bool) (G N:Nat) (B:Rng) (p:Option Jmp) (M:Mp) (fr:F) (h:Hp) (a:Act) (w:World):Prop where
 at_:At keep G N [] M fr h a w
 goes:Goes B p M h w
def aUo(keep:Nat→Bool)(G N:Nat)(B:Rng):OutI→Exit→Act→World→Prop
 | .nor fr h p,.normal,a,w=>∃M,AtI keep G N B p M fr h a w
 | .ret fr h p,.ret,a,w=>∃M,AtI keep G N B p M fr h a w
 | .ex i fr h p,.exit j,a,w=>j=i∧∃M,AtI keep G N B p M fr h a w
 |_,_,_,_=>False
def aUn(P:Program)(keep:Nat→Bool)(G N:Nat)(B:Rng)(c:Code)(I:aUp):Prop:=
 ∀n p fr h M a w,I fr h p≠ .bad→AtI keep G N B p M fr h a w→c.wpIn (gX none) n P (aUo keep G N B (I fr h p)) a w
def YOk(P:Program)(G:Nat)(B:Rng)(Y:List V→Hp→YR):Prop:=
 ∀(args:List V) (cargs:List Value) (h:Hp) (M:Mp) (w:World) (n:Nat) (R:Ending→World→Prop),Rel G M h w→aX M args cargs→Goes B none M h w→
  aFI (fun p h'=>∀M' w',M.le M'→Rel G M' h' w'→Goes B p M' h' w'→R (.returned (.bool p.isNone)) w') (Y args h)→
  cargs.toArray.size=B.L.params.size∧RoundIn (gX none) n P B.l B.L.fn ((B.L.params.zip cargs.toArray).foldl (fun tmps (t,a)=>tmps.setIfInBounds t a) B.L.tmps) B.L.assign B.L.body w R
theorem aUt{p:Option Jmp}{Df:Unit}{M:Mp}{h:Hp}{w:World}(hr:Rel G M h w)(g:Goes B p M h w){o:Out}:∀x a' w',eP keep G N [] M h w o x a' w'→aUo keep G N B (aUr o p) x a' w':=by
 intro x a' w' q
 cases o<;>cases x<;>simp only [eP] at q
 ·obtain⟨M',at',hx⟩:=q;exact⟨M',at',g.step hr hx⟩
 ·obtain⟨M',at',hx⟩:=q;exact⟨M',at',g.step hr hx⟩
 ·obtain⟨e1,M',at',hx⟩:=q;exact⟨e1,M',at',g.step hr hx⟩
theorem aUu{o:Out}{p:Option Jmp}(hne:aUr o p≠ .bad):o≠ .bad:=fun e=>by rw [e] at hne;exact hne rfl
theorem aUn.lift{c:Code}{D:F→Hp→Out}(hc:bG P keep G N c D):aUn P keep G N B c (aUH D):=fun n p fr h M a w hne at_=>
 wpIn_mono (hc none n [] fr h M a w (aUu hne) at_.at_) (aUt (Df:=()) at_.at_.rel at_.goes)
theorem aUn.seq{c d:Code}{I J:aUp}(hc:aUn P keep G N B c I)(hd:aUn P keep G N B d J):aUn P keep G N B (.seq c d) (aUD I J):=by
 intro n p fr h M a w hne at_
 refine wpIn_seq ?_
 unfold aUD at hne⊢
 cases e1:I fr h p with
 |bad=>rw [e1] at hne;exact absurd rfl hne
 |nor fr1 h1 p1=>
  rw [e1] at hne
  refine wpIn_mono (hc n p fr h M a w (by rw [e1];simp) at_) ?_
  intro x a' w' q
  rw [e1] at q
  cases x<;>simp only [aUo] at q
  obtain⟨M',at'⟩:=q
  exact hd n p1 fr1 h1 M' a' w' hne at'
 |ret fr1 h1 p1=>
  refine wpIn_mono (hc n p fr h M a w (by rw [e1];simp) at_) ?_
  intro x a' w' q
  rw [e1] at q
  cases x<;>simp only [aUo] at q
  exact q
 |ex i fr1 h1 p1=>
  refine wpIn_mono (hc n p fr h M a w (by rw [e1];simp) at_) ?_
  intro x a' w' q
  rw [e1] at q
  cases x<;>simp only [aUo] at q
  exact q
theorem aUn.cond{x:Operand}{c d:Code}{I J:aUp}(hc:aUn P keep G N B c I)(hd:aUn P keep G N B d J):aUn P keep G N B (.cond x c d) (aUF x I J):=by
 intro n p fr h M a w hne at_
 cases x with
 |tmp t=>
  simp only [aUF] at hne⊢
  cases hv:fr.get (Pos.of t) with
  |none=>rw [hv] at hne;exact absurd rfl hne
  |some v=>
   rw [hv] at hne
   cases v<;>try exact absurd rfl hne
   rename_i q
   have hb:=(at_.at_.fr t _ hv).2.bool
   cases q
   ·exact wpIn_cond_false (show a.eval (.tmp t)=.bool false from hb) (hd n p fr h M a w hne at_)
   ·exact wpIn_cond_true (show a.eval (.tmp t)=.bool true from hb) (hc n p fr h M a w hne at_)
 |const c=>exact absurd rfl hne
 |global g=>exact absurd rfl hne
 |func f=>exact absurd rfl hne
theorem aUn.block{id:Nat}{c:Code}{I:aUp}(hc:aUn P keep G N B c I):aUn P keep G N B (.block id c) (aUG id I):=by
 intro n p fr h M a w hne at_
 refine wpIn_block ?_
 unfold aUG at hne⊢
 cases e1:I fr h p with
 |bad=>rw [e1] at hne;exact absurd rfl hne
 |nor fr1 h1 p1=>
  refine wpIn_mono (hc n p fr h M a w (by rw [e1];simp) at_) ?_
  intro x a' w' q
  rw [e1] at q
  cases x<;>simp only [aUo] at q
  exact q
 |ret fr1 h1 p1=>
  refine wpIn_mono (hc n p fr h M a w (by rw [e1];simp) at_) ?_
  intro x a' w' q
  rw [e1] at q
  cases x<;>simp only [aUo] at q
  exact q
 |ex i fr1 h1 p1=>
  refine wpIn_mono (hc n p fr h M a w (by rw [e1];simp) at_) ?_
  intro x a' w' q
  rw [e1] at q
  cases x<;>simp only [aUo] at q
  obtain⟨rfl,q⟩:=q
  simp only [Exit.inBlock]
  cases hb:Nat.beq _ id with
  |true=>rw [if_pos (Nat.eq_of_beq_eq_true hb)];exact q
  |false=>rw [if_neg (Nat.ne_of_beq_eq_false hb)];exact⟨rfl,q⟩
theorem aUA(b:aUp)(n:Nat)(fr:F)(h:Hp)(p:Option Jmp):aUs b (n+1) fr h p=(match b fr h p with
  | .nor fr h p=>aUs b n fr h p
  | .ret fr h p=>.ret fr h p
  | .ex i fr h p=>.ex i fr h p
  | .bad=>.bad):=rfl
theorem aUn.loop{c:Code}{I:aUp}(hc:aUn P keep G N B c I)(n:Nat):aUn P keep G N B (.loop c) (aUs I n):=by
 intro n0 p fr h M a w hne at_
 generalize hout:aUs I n fr h p=out at hne
 let J:Nat→Act→World→Prop:=fun m a' w'=>∃fr' h' p' M',aUs I m fr' h' p'=out∧AtI keep G N B p' M' fr' h' a' w'
 intro b k cs hro hb hrm
 have key:∀(n:Nat) a' w',J n a' w'→∃e a'' w'',aUo keep G N B out e a'' w''∧ArrivesIn (Machine.fenced P (gX none)) P (lone (b.atR a' (.code c:: .inLoop c::k)) cs w') b k cs e a'' w'':=by
  intro n
  induction n with
  |zero=>rintro a' w' ⟨fr',h',p',M',e,-⟩;exact absurd e.symm hne
  |succ n ih=>
   rintro a' w' ⟨fr',h',p',M',e,at'⟩
   rw [aUA] at e
   have hr:c.wpIn (gX none) n0 P (Exit.then (fun a w=>J n a w) (aUo keep G N B out)) a' w':=by
    cases e1:I fr' h' p' with
    |bad=>rw [e1] at e;exact absurd e.symm hne
    |nor fr1 h1 p1=>
     rw [e1] at e
     refine wpIn_mono (hc n0 p' fr' h' M' a' w' (by rw [e1];simp) at') ?_
     intro x a2 w2 q
     rw [e1] at q
     cases x<;>simp only [aUo] at q
     obtain⟨M2,at2⟩:=q
     exact⟨fr1,h1,p1,M2,e,at2⟩
    |ret fr1 h1 p1=>
     rw [e1] at e
     refine wpIn_mono (hc n0 p' fr' h' M' a' w' (by rw [e1];simp) at') ?_
     intro x a2 w2 q
     rw [e1] at q
     cases x<;>simp only [aUo] at q
     subst e
     exact q
    |ex i fr1 h1 p1=>
     rw [e1] at e
     refine wpIn_mono (hc n0 p' fr' h' M' a' w' (by rw [e1];simp) at') ?_
     intro x a2 w2 q
     rw [e1] at q
     cases x<;>simp only [aUo] at q
     subst e
     exact q
   obtain⟨x,a₁,w₁,hq,harr⟩:=hr b (.inLoop c::k) cs hro hb hrm
   cases x with
   |normal=>
    obtain⟨x2,a₂,w₂,hq₂,harr₂⟩:=ih a₁ w₁ hq
    exact⟨x2,a₂,w₂,hq₂,.of_steps (StepsIn.trans harr (.one (fenced_calm hb hrm rfl) stepR_inLoop)) harr₂⟩
   |exit id=>exact⟨_,a₁,w₁,hq,.pass (x:=.inLoop c) rfl (fun _ _=>.inl (by simp)) harr⟩
   |goto l=>exact⟨_,a₁,w₁,hq,.pass (x:=.inLoop c) rfl (fun _ _=>.inl (by simp)) harr⟩
   |ret=>exact⟨_,a₁,w₁,hq,.pass (x:=.inLoop c) rfl (fun _ _=>.inl (by simp)) harr⟩
   |panic ch=>exact⟨_,a₁,w₁,hq,.pass (x:=.inLoop c) rfl (fun _ _=>.inl (by simp)) harr⟩
   |outgrown=>exact⟨_,a₁,w₁,hq,.pass (x:=.inLoop c) rfl (fun _ _=>.inl (by simp)) harr⟩
 obtain⟨x,a',w',hq,harr⟩:=key n a w ⟨fr,h,p,M,hout,at_⟩
 exact⟨x,a',w',hq,.of_steps (.one (fenced_calm hb hrm rfl) stepR_loop) harr⟩
theorem aUB{ro:Option Nat}{n:Nat}{Df:List Deferred}(hE:∀f F,e f=some F→aj P G f F){ops:Array Oper}{fr':F}{h':Hp}{Q:Exit→Act→World→Prop}{l2:List Nat}:
  ∀(l:List Nat) (env:Env) (fr:F) (h:Hp) (M:Mp) (a:Act) (w:World),(∀i∈l,∃o,ops[i]?=some o∧o.guard=none∧iM G N o=true)→At keep G N Df M fr h a w→iH M env a→
   jV P keep e ops (l.filterMap (ops[·]?)) env fr h=.nor fr' h'→
   (∀a' w' M',At keep G N Df M' fr' h' a' w'→Ext M h w M' h' w'→wpOpsIn (gX ro) n P ops Q l2 a' w')→wpOpsIn (gX ro) n P ops Q (l++l2) a w:=by
 intro l
 induction l with
 |nil=>
  intro env fr h M a w _ at_ _ e0 hK
  simp only [List.filterMap_nil,jV] at e0
  cases e0
  exact hK a w M at_ (.refl at_.rel)
 |cons i l ih=>
  intro env fr h M a w hl at_ he e0 hK
  obtain⟨o,ho,hgi,hok⟩:=hl i (by simp)
  rw [List.cons_append]
  simp only [wpOpsIn,ho]
  rw [List.filterMap_cons_some ho] at e0
  unfold jV at e0
  simp only [hgi] at e0
  have hw:Region.wanted o (yielded ops a.tmps)=true:=by simp [Region.wanted,hgi]
  simp only [hw,if_true]
  refine aED (Q:=fun _ _ _=>False) (fun _ _ h=>h) (fun _ _ _ h=>h.elim) (qH hok) (zY hE hok (by simp) at_ he e0 ?_)
  intro env' fr2 h2 a' w' M' e1 at1 he1 hx
  exact ih env' fr2 h2 M' a' w' (fun j hj=>hl j (by simp [hj])) at1 he1 e1 fun a2 w2 M2 at2 hx2=>hK a2 w2 M2 at2 (hx.trans hx2)
theorem aUx:∀{l:List Oper} {j:Nat},yIdx l=some j→j<l.length
 | [],j,h=>by cases h
 |o::l,j,h=>by
  simp only [yIdx] at h
  split at h
  ·cases h;simp
  ·split at h
   ·rename_i j' hj'
    cases h
    have:=aUx hj'
    simp;omega
   ·cases h
theorem aUq(ops:Array Oper):∀(n k:Nat),k+n≤ops.size→(List.range' k n).filterMap (ops[·]?)=(ops.toList.drop k).take n
 |0,k,_=>by simp
 |n+1,k,hk=>by
  rw [List.range'_succ,List.filterMap_cons_some (Array.getElem?_eq_getElem (by omega)),aUq ops n (k+1) (by omega)]
  have hlt:k<ops.toList.length:=by simp;omega
  rw [List.drop_eq_getElem_cons hlt,List.take_succ_cons]
  simp
theorem aUn.region(hE:∀f F,e f=some F→aj P G f F){Y:List V→Hp→YR}(hY:YOk P G B Y){id:Nat}{ops:Array Oper}(hops:∀o∈ops.toList,iM G N o=true):aUn P keep G N B (.region id ops false) (aUE P keep e Y B.kp.nat ops):=by
 intro n p fr h M a w hne at_
 refine wpIn_region ?_
 unfold aUE at hne⊢
 cases p with
 |some q=>exact absurd rfl hne
 |none=>
 simp only [] at hne⊢
 cases hj:yIdx ops.toList with
 |none=>rw [hj] at hne;exact absurd rfl hne
 |some j=>
 have hlt:j<ops.size:=by simpa using aUx hj
 rw [hj] at hne
 simp only [] at hne⊢
 have ho:ops[j]?=some ops[j]:=Array.getElem?_eq_getElem hlt
 rw [ho] at hne⊢
 simp only [] at hne⊢
 cases hng:aUv ops.toList with
 |false=>rw [hng] at hne;exact absurd rfl hne
 |true=>
 rw [hng] at hne
 simp only [] at hne⊢
 have hgd:∀o∈ops.toList,o.guard=none:=fun o hm=>by
  have:=List.all_eq_true.1 hng o hm
  split at this
  ·assumption
  ·cases this
 cases hpre:jV P keep e ops (ops.toList.take j) [] fr h with
 |bad=>rw [hpre] at hne;exact absurd rfl hne
 |ret fr1 h1=>rw [hpre] at hne;exact absurd rfl hne
 |ex i fr1 h1=>rw [hpre] at hne;exact absurd rfl hne
 |nor fr1 h1=>
 rw [hpre] at hne
 simp only [] at hne⊢
 have hmem:∀{i:Nat} (hi:i<ops.size),ops[i]∈ops.toList:=fun hi=>by simp
 have hrange:List.range ops.size=List.range' 0 j++(j::List.range' (j+1) (ops.size - (j+1))):=by
  have h2:List.range' j (ops.size - j)=j::List.range' (j+1) (ops.size - (j+1)):=by
   rw [show ops.size - j=(ops.size - (j+1))+1 by omega,List.range'_succ]
  rw [←h2,List.range_eq_range']
  have:=List.range'_append (s:=0) (m:=j) (n:=ops.size - j) (step:=1)
  simp only [Nat.one_mul,Nat.zero_add] at this
  rw [this]
  congr 1
  omega
 rw [hrange]
 refine aUB hE (List.range' 0 j) [] fr h M a w (fun i hi=>?_) at_.at_ (iH.nil M a) (by rw [aUq ops j 0 (by omega)];exact hpre) ?_
 ·have hi':i<ops.size:=by
   have:=List.mem_range'.1 hi
   obtain⟨q,hq,rfl⟩:=this
   omega
  exact⟨ops[i],Array.getElem?_eq_getElem hi',hgd _ (hmem hi'),hops _ (hmem hi')⟩
 intro a1 w1 M1 at1 hx1
 have g1:=at_.goes.step at_.at_.rel hx1
 simp only [wpOpsIn,ho]
 have hw:Region.wanted ops[j] (yielded ops a1.tmps)=true:=by simp [Region.wanted,hgd _ (hmem hlt)]
 simp only [hw,if_true]
 have hokj:=hops _ (hmem hlt)
 have hndj:=qH hokj
 cases hya:aUy ops[j] fr1 B.kp.nat with
 |none=>rw [hya] at hne;exact absurd rfl hne
 |some args=>
 rw [hya] at hne
 simp only [] at hne⊢
 have hcall:∃cargs,aX M1 args cargs∧∀{w'},(Instr.yield B.l cargs.toArray).run P w1=w'→(execOp a1.eval ops[j]).run P w1=w':=by
  unfold aUy at hya
  split at hya
  ·rename_i c hop
   split at hya
   ·rename_i f hcal
    split at hya
    ·rename_i vs hvs
     split at hya
     ·rename_i g avs
      split at hya
      ·rename_i fn x y
       split at hya
       ·split at hya
        ·rename_i k'
         split at hya
         ·rename_i hk
          cases hya
          have hk:=Nat.eq_of_beq_eq_true hk
          subst hk
          obtain⟨cg,cargs,q1,q2,q3⟩:=(sF at1 hvs).cons_inv
          rw [List.map_cons] at q1
          cases q1
          obtain⟨g0,xs,ys,hg0,hx',hy',hf⟩:=q2.func
          obtain⟨L,hL,rfl⟩:=hg0
          rw [Pos.qI,g1.ky] at hL
          cases hL
          cases(show xs= [] from hx')
          refine⟨_,q3,fun{w'} hw'=>?_⟩
          rw [←hw']
          have e2:(c.args.toList.map a1.eval).toArray=c.args.map a1.eval:=by apply Array.ext';simp
          rw [e2]
          simp only [execOp,hop,resolve,hcal,hf,Deferred.ofValue]
          simp [invoke]
         ·cases hya
        ·cases hya
       ·cases hya
      ·cases hya
     ·cases hya
    ·cases hya
   ·cases hya
  ·cases hya
 obtain⟨cargs,hcargs,hexec⟩:=hcall
 refine⟨fun _ _=>trivial,?_⟩
 rw [Oper.semAt_eq _ _ _ hndj]
 have after:∀(b:Bool) (p:Option Jmp) (h2:Hp),aUr (nR keep ops[j].dst (.bool b) [] fr1 fun env fr=>jV P keep e ops (ops.toList.drop (j+1)) env fr h2) p≠ .bad→
   ∀M' w',M1.le M'→Rel G M' h2 w'→Goes B p M' h2 w'→wpOpsIn (gX none) n P ops (aUo keep G N B (aUr (nR keep ops[j].dst (.bool b) [] fr1 fun env fr=>jV P keep e ops (ops.toList.drop (j+1)) env fr h2) p)) (List.range' (j+1) (ops.size - (j+1))) (a1.put ops[j].dst (.bool b)) w':=by
  intro b p h2 hne2 M2 w2 hle hr2 g2
  have at2:At keep G N [] M2 fr1 h2 a1 w2:=⟨hr2,at1.fr.mono hle,at1.size,at1.plain⟩
  generalize hout:(nR keep ops[j].dst (.bool b) [] fr1 fun env fr=>jV P keep e ops (ops.toList.drop (j+1)) env fr h2)=out at hne2
  obtain⟨env',fr',e1,at3,he3⟩:=Ej at2 (iH.nil M2 a1) (nV hokj) (iZ M2 b) hout
  refine auI (aUt (Df:=()) hr2 g2) eP.abI (fun o ho=>qH (hops o ho)) _ _ _ (avO hE hops (aUu hne2) _ env' fr' h2 M2 _ w2 (fun i hi=>?_) at3 he3 ?_)
  ·obtain⟨q,hq,rfl⟩:=List.mem_range'.1 hi
   omega
  ·rw [aUq ops _ (j+1) (by omega),List.take_of_length_le (by simp)]
   exact e1
 have hRq:=hY args cargs h1 M1 w1 (n - 1) (fun
  | .returned v,w''=>wpOpsIn (gX none) n P ops (aUo keep G N B (match Y args h1 with
   | .go h2=>aUr (nR keep ops[j].dst (.bool true) [] fr1 fun env fr=>jV P keep e ops (ops.toList.drop (j+1)) env fr h2) none
   | .stop q h2=>aUr (nR keep ops[j].dst (.bool false) [] fr1 fun env fr=>jV P keep e ops (ops.toList.drop (j+1)) env fr h2) (some q)
   | .bad=>.bad)) (List.range' (j+1) (ops.size - (j+1))) (a1.put ops[j].dst v) w''
  | .panicked _,_=>False
  | .outgrown,_=>False) at1.rel hcargs g1 (by
   cases hy:Y args h1 with
   |bad=>rw [hy] at hne;exact absurd rfl hne
   |go h2=>
    rw [hy] at hne
    exact fun M' w' hle hr' g'=>after true none h2 hne M' w' hle hr' g'
   |stop q h2=>
    rw [hy] at hne
    exact fun M' w' hle hr' g'=>after false (some q) h2 hne M' w' hle hr' g')
 rw [hexec (run_yield g1.st hRq.1)]
 rw [Oper.uponIn_round]
 refine⟨fun hx=>by simp [gX,Fence.wide] at hx,?_⟩
 refine RoundIn.mono hRq.2 ?_
 intro x w2 hx2
 cases x with
 |returned v=>exact hx2
 |panicked ch=>exact hx2.elim
 |outgrown=>exact hx2.elim
end
end Go.Vm
