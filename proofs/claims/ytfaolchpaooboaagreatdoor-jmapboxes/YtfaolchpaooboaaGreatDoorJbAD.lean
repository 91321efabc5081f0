/- Part of the claim: facts that its last text uses. No conditions. -/
import Derived.Test.YtfaolchpaooboaaGreatDoorJbAC
set_option linter.all false
namespace Go.Vm
noncomputable section
variable{P:Program}{G:Nat}{M:Mp}{h h':Hp}{w:World}{r:V}
def kL(P:Program)(M:Mp)(w:World)(s:Sem Value)(o:Ob)(mk:Pos→V):Prop:=
 ∃c w' b n,s.run P w=.ok c w'∧w'.heap=w.heap.push b∧w'.os=w.os∧w'.tape=w.tape∧w'.output=w.output∧
  (∀N,M.le N→dV N ⟨w.heap.size,0,n⟩ w' o)∧∀(N:Mp) p,N p=some ⟨w.heap.size,0,n⟩→Rp N (mk p) c
theorem qE(vs:List V)(c:Array Value)(el:TypeId)(fr:Nat×Nat)(hx:aX M vs (c.toList.take vs.length))(hs:∀y∈c.toList,scalar y=true)
  (hf:∀k,k≤c.size→¬(fr.1≤k∧k<fr.2)) (full:Bool) (hfull:full=true→c.size=vs.length) {w':World} (hw:w'.heap=w.heap.push (.cells c el fr)):
  ∀N,M.le N→dV N ⟨w.heap.size,0,c.size⟩ w' (.cells (.rw el full) vs):=by
 intro N hle
 refine⟨c,el,fr,by rw [hw];simp,rfl,fun k v hk=>?_,rfl,fun k _ hk=>hf k hk,fun h=>⟨rfl,hfull h⟩⟩
 obtain⟨x,hx',hrx⟩:=hx.get hk
 rw [List.getElem?_take] at hx'
 split at hx'
 ·exact⟨x,by simpa using hx',hrx.mono hle,hs x (List.mem_of_getElem? hx')⟩
 ·cases hx'
abbrev A:=Option (Ob×(Pos→V))
def aFF(t:TypeId)(z:List V):A:=some (.cells (.rw t true) z,fun p=>.ptr p 0)
def Oo(t:TypeId)(x:V):A:=match kT x with|true=>some (.cells (.rw t true) x.cells,fun p=>.ptr p 0)|false=>none
def gJ(el:TypeId)(z:List V)(len:Nat)(qs:List (Nat×Nat×V)):A:=match wZ z qs with
 |some cs=>some (.cells (.rw el true) cs,fun p=>.slice p 0 len (.kn len))
 |none=>none
def lV(el:TypeId)(bt:Nat)(z:List V)(l c:V):A:=match l,c with
 | .int _ (.ofNat l),.int _ (.ofNat c)=>(match Nat.ble l c,Nat.ble (Nat.mul c bt) 140737488355328 with
  |true,true=>some (.cells (.rw el true) (times c z),fun p=>.slice p 0 l (.kn c))
  |_,_=>none)
 |_,_=>none
def nJ(x:V):A:=match x with
 | .str s=>(match Nat.blt s.length 4611686018427387904 with|true=>some (.bytes (u8s s),fun p=>.slice p 0 s.length (.un 1))|false=>none)
 |_=>none
variable{o:Ob}{mk:Pos→V}
theorem ayY{t:TypeId}{x:V}{c:Value}(hx:Rp M x c)(e:Oo t x=some (o,mk)):kL P M w (Instr.box t c) o mk:=by
 unfold Oo at e
 split at e
 ·rename_i hn
  cases e
  have hc:=hx.cells
  have hl:x.cells.length=c.cells.size:=by have:=hc.length;simpa using this.symm
  refine⟨.pointer (some ⟨w.heap.size,0,none⟩),w.alloc (.cells c.cells t),_,_,?_,rfl,rfl,rfl,rfl,qE (w':=w.alloc (.cells c.cells t)) x.cells c.cells t (0,0) (by rw [hl,←Array.length_toList,List.take_length];exact hc) (ku hx hn) (by simp) true (fun _=>hl.symm) rfl,fun N p hp=>jO hp 0⟩
  simp [Instr.box,newVar,newRow]
 ·cases e
theorem ayX{t:TypeId}{it:TypeInfo}{z:Value}(hit:P.info? t=some it)(hz:it.zero=some z){zs:List V}(hzs:aX M zs z.cells.toList)(hsc:∀y∈z.cells.toList,scalar y=true)
  (e:aFF t zs=some (o,mk)):kL P M w (Instr.alloc t true (.tuple #[])) o mk:=by
 cases e
 have hl:=hzs.length
 refine⟨.pointer (some ⟨w.heap.size,0,none⟩),w.alloc (.cells z.cells t),_,_,?_,rfl,rfl,rfl,rfl,qE (w':=w.alloc (.cells z.cells t)) zs z.cells t (0,0) (by rw [show zs.length=z.cells.toList.length from hl.symm,List.take_length];exact hzs) hsc (by simp) true (fun _=>by rw [←hl];simp) rfl,fun N p hp=>jO hp 0⟩
 simp [Instr.alloc,zeroValue,typeInfo,hit,hz,newVar,newRow]
theorem Eu{t el:TypeId}{ti:TypeInfo}{z:Value}(hd:P.underlying t=some (.slice el))(E:ElemOk P el ti z){len:Nat}(hpos:0<len)(hsmall:len*ti.size≤16777216)
  {zs:List V} (hzs:aX M zs ((Array.range (len*ti.size)).map (z.cells[· % z.cells.size]!)).toList) {ps:List (Nat×V)} {qs:List (Nat×Nat×V)} {ys:Array (Nat×Value)}
  (hp:placed (fun i=>some (i*ti.size,ti.size)) ps=some qs) (h1:ps.map (·.1)=ys.toList.map (·.1)) (h2:aX M (ps.map (·.2)) (ys.toList.map (·.2))) (e:gJ el zs len qs=some (o,mk)):
  kL P M w (Instr.buildSlice t len ys) o mk:=by
 unfold gJ at e
 split at e
 ·rename_i cs hf
  cases e
  have hsc:∀y∈((Array.range (len*ti.size)).map (z.cells[· % z.cells.size]!)).toList,scalar y=true:=by
   intro y hy
   simp only [Array.toList_map,List.mem_map] at hy
   obtain⟨i,_,rfl⟩:=hy
   have hlt:i % z.cells.size<z.cells.size:=Nat.mod_lt _ (by rw [E.cells];exact E.size)
   rw [getElem!_pos z.cells _ hlt]
   exact E.plain _ (by simp)
  obtain⟨xs',g1,g2,g3⟩:=Eh hp hf hzs hsc h1 h2
  have hl:=g2.length
  have hnz:¬len*ti.size=0:=by have:=Nat.mul_pos hpos E.size;omega
  exact⟨_,w.alloc (.cells xs' el),_,_,run_buildSlice w t el len ys xs' ti z hd E.info E.zero (by omega) hnz g1,rfl,rfl,rfl,rfl,
   qE (w':=w.alloc (.cells xs' el)) cs xs' el (0,0) (by rw [show cs.length=xs'.toList.length from hl.symm,List.take_length];exact g2) g3 (by simp) true (fun _=>by rw [←hl];simp) rfl,
   fun N p hp=>fB (o:=0) (k:=.kn len) (m:=len) hp ⟨rfl,Nat.le_refl _⟩⟩
 ·cases e
theorem Hl{t el:TypeId}{ti:TypeInfo}{z:Value}(hd:P.underlying t=some (.slice el))(E:ElemOk P el ti z){zs:List V}(hzs:aX M zs z.cells.toList)
  {l c:V} {a b:Value} (hl:Rp M l a) (hc:Rp M c b) (e:lV el ti.bytes zs l c=some (o,mk)):kL P M w (Instr.makeSlice t a b) o mk:=by
 unfold lV at e
 split at e
 ·rename_i k1 n1 k2 n2
  cases hl.int
  cases hc.int
  split at e
  ·rename_i c1 c2
   cases e
   have c1':n1≤n2:=Nat.le_of_ble_eq_true c1
   have c2':n2*ti.bytes≤140737488355328:=Nat.le_of_ble_eq_true c2
   have hle:n2≤n2*ti.bytes:=Nat.le_mul_of_pos_right _ E.bytes
   have hcast:(ti.bytes:Int)*(n2:Int)≤281474976710656:=by
    have:((ti.bytes*n2:Nat):Int)≤281474976710656:=by rw [Nat.mul_comm];omega
    rwa [Int.natCast_mul] at this
   have hrun:=run_make (P:=P) w t el ti z hd E.info E.zero k1 k2 (n1:Int) (n2:Int) (by omega) (by omega) hcast (by omega)
   simp only [Int.toNat_natCast] at hrun
   have hcs:(madeCells z.cells (n2*ti.size)).toList=(List.replicate n2 z.cells.toList).flatten:=by
    unfold madeCells
    rw [←E.cells]
    exact nP z.cells n2 (by rw [E.cells];exact E.size)
   have hrep:=uM hzs n2
   have hlen:=hrep.length
   exact⟨_,w.alloc (.cells (madeCells z.cells (n2*ti.size)) el),_,_,hrun,rfl,rfl,rfl,rfl,
    qE (w':=w.alloc (.cells (madeCells z.cells (n2*ti.size)) el)) (times n2 zs) (madeCells z.cells (n2*ti.size)) el (0,0) (by rw [hcs,←hlen,List.take_length];exact hrep)
     (by
      intro y hy
      rw [hcs] at hy
      obtain⟨l,hl,hyl⟩:=List.mem_flatten.1 hy
      rw [(List.mem_replicate.1 hl).2] at hyl
      exact E.plain y hyl) (by simp) true (fun _=>by rw [←hlen,←hcs];simp) rfl,
    fun N p hp=>fB (o:=0) (n:=n1) (k:=.kn n2) (m:=n2) hp ⟨rfl,c1'⟩⟩
  ·cases e
 ·cases e
theorem Om{s d el:TypeId}(hs:P.underlying s=some .string)(hd:P.underlying d=some (.slice el))(he:P.underlying el=some (.int .u8)){x:V}{a:Value}(hx:Rp M x a)(e:nJ x=some (o,mk)):
  kL P M w (convert s d a) o mk:=by
 unfold nJ at e
 split at e
 ·rename_i l
  obtain⟨hl,rfl⟩:=hx.str
  split at e
  ·rename_i hbl
   have hbl':l.length<4611686018427387904:=by simpa [Nat.blt_eq] using hbl
   cases e
   have hrun:=run_bytes_of_string (P:=P) w s d el (bts l) hs hd he
   have hge:=grownCap_ge w (bts l).size 0 el
   have hgl:grownCap w (bts l).size 0 el≤9223372036854775807:=grownCap_le_maxLen _ _ _ _ (by rw [gW];show _≤9223372036854775807;omega)
   generalize hC:grownCap w (bts l).size 0 el=C at hrun hge hgl
   have hbs:(bytesRow (bts l) C).toList=(l.map fun b=>Value.int .u8 (.ofNat b))++List.replicate (C - l.length) (.int .u8 0):=by
    simp only [bytesRow,Array.toList_append,Array.toList_map,gW,Array.toList_replicate]
    congr 1
    simp only [bts,List.map_map]
    apply List.map_congr_left
    intro b hb
    simp [oJ (hl b hb)]
   have hsz:(bytesRow (bts l) C).size=C:=by
    rw [←Array.length_toList,hbs];rw [gW] at hge;simp;omega
   have hrep:aX M (u8s l) (l.map fun b=>Value.int .u8 (.ofNat b)):=by
    refine aX.mk (by simp [u8s]) (fun i v hi=>?_)
    simp only [u8s,List.getElem?_map] at hi⊢
    cases hsi:l[i]? with
    |none=>rw [hsi] at hi;cases hi
    |some b=>rw [hsi] at hi;cases hi;exact⟨_,rfl,dK M _ _⟩
   rw [gW] at hrun hge
   exact⟨_,w.drew.alloc (.cells (bytesRow (bts l) C) el ((bytesRow (bts l) C).size,(bytesRow (bts l) C).size+1)),_,_,hrun,rfl,rfl,rfl,rfl,
    (fun N hle=>⟨_,_,_,by simp only [World.alloc];exact Array.getElem?_push_size,rfl,fun k v hk=>by
     obtain⟨x,hx',hrx⟩:=hrep.get hk
     have hbx:(bytesRow (bts l) C)[0+k]?=some x:=by
      rw [Nat.zero_add,←Array.getElem?_toList,hbs,List.getElem?_append_left (by rw [List.getElem?_eq_some_iff] at hx';exact hx'.1)];exact hx'
     refine⟨x,hbx,hrx.mono hle,?_⟩
     obtain⟨b,_,rfl⟩:=List.mem_map.1 (List.mem_of_getElem? hx');rfl,fun k _ hk h=>by
      have h1:(bytesRow (bts l) C).size≤k:=h.1
      exact absurd hk (by show ¬k<(bytesRow (bts l) C).size;omega)⟩),
    fun N p hp=>fB (o:=0) (n:=l.length) (k:=.un 1) (m:=C) hp ⟨⟨hge,hgl⟩,by show 0+0+C*1=(bytesRow (bts l) C).size;rw [hsz];omega⟩⟩
  ·cases e
 ·cases e
def Ia(P:Program)(t:TypeId)(vs:List V):A:=match vs with
 | []=>(match P.underlying t with
  |some (.slice el)=>(match P.info? el with|some _=>some (.cells (.rw el true) [],fun p=>.slice p 0 0 (.kn 0))|none=>none)
  |_=>none)
 |_=>none
def lU(P:Program)(t:TypeId)(len:Nat)(is:List Nat)(vs:List V):A:=match P.underlying t with
 |some (.slice el)=>(match oh P el with
  |some ti=>(match ti.zero with
   |some z=>(match nH ((Array.range (len*ti.size)).map (z.cells[· % z.cells.size]!)).toList,placed (fun i=>some (i*ti.size,ti.size)) (is.zip vs),Nat.blt 0 len,Nat.ble (len*ti.size) 16777216 with
    |some zs,some qs,true,true=>gJ el zs len qs
    |_,_,_,_=>none)
   |none=>none)
  |none=>none)
 |_=>none
def kC(P:Program)(op:Op)(vs:List V):A:=
 match op with
 | .alloc t=>(match vs with| []=>(match rP P t with|some z=>aFF t z|none=>none)|_=>none)
 | .box t _=>(match vs with| [x]=>Oo t x|_=>none)
 | .buildSlice t len ps=>(match Nat.beq len 0 with|true=>Ia P t vs|false=>lU P t len (ps.toList.map (·.1)) vs)
 | .makeSlice t _ _=>(match vs with
  | [l,c]=>(match P.underlying t with
   |some (.slice el)=>(match oh P el,rP P el with|some ti,some z=>lV el ti.bytes z l c|_,_=>none)
   |_=>none)
  |_=>none)
 | .makeMap _ r=>(match r,vs with
  |none,[]=>some (.map [],fun p=>.map p)
  |_,_=>none)
 | .convert s d _=>(match vs with
  | [x]=>(match P.underlying s,P.underlying d with
   |some .string,some (.slice el)=>(match P.underlying el with|some (.int .u8)=>nJ x|_=>none)
   |_,_=>none)
  |_=>none)
 |_=>none
def Tz(P:Program)(M:Mp)(w:World)(s:Sem Next)(o:Ob)(mk:Pos→V):Prop:=
 ∃c w' b n,s.run P w=.ok (.value c) w'∧w'.heap=w.heap.push b∧w'.os=w.os∧w'.tape=w.tape∧w'.output=w.output∧
  (∀N,M.le N→dV N ⟨w.heap.size,0,n⟩ w' o)∧∀(N:Mp) p,N p=some ⟨w.heap.size,0,n⟩→Rp N (mk p) c
theorem kL.opq{s:Sem Value}(g:kL P M w s o mk):Tz P M w (do pure (.value (←s))) o mk:=by
 obtain⟨c,w',b,n,h1,h2⟩:=g
 exact⟨c,w',b,n,by simp [h1],h2⟩
theorem Uh{op:Oper}{a:Act}{vs:List V}(hv:aX M vs (op.op.operands.toList.map a.eval))(e0:kC P op.op vs=some (o,mk)):
  Tz P M w (execOp a.eval op) o mk:=by
 obtain⟨dst,op,type,pos,after,guard⟩:=op
 simp only at hv e0
 cases op<;>simp only [kC] at e0<;>try (cases e0;done)
 case alloc t=>
  split at e0
  ·split at e0
   ·rename_i z hz
    obtain⟨it,zv,h1,h2,h3⟩:=lX hz
    exact(ayX h1 h2 (h3 M).1 (h3 M).2 e0).opq
   ·cases e0
  ·cases e0
 case box t x=>
  split at e0
  ·exact(ayY (jk rfl hv) e0).opq
  ·cases e0
 case makeMap t rs=>
  split at e0
  ·cases e0
   have gd:kL P M w (Instr.makeMap t none) (.map []) (fun p=>.map p):=⟨.map (some w.heap.size),w.alloc (.map #[] 0),_,0,by simp [Instr.makeMap],rfl,rfl,rfl,rfl,
    fun N _=>⟨#[],0,(by show(w.heap.push _)[w.heap.size]?=_;simp),jQ.nil N⟩,fun N p hp=>⟨rfl,_,hp,rfl⟩⟩
   exact gd.opq
  ·cases e0
 case convert s d x=>
  split at e0
  ·split at e0
   ·rename_i el hs hd
    split at e0
    ·rename_i he'
     exact(Om hs hd he' (jk rfl hv) e0).opq
    ·cases e0
   ·cases e0
  ·cases e0
 case makeSlice t l c=>
  split at e0
  ·obtain⟨h1,h2⟩:=ops2 rfl hv
   split at e0
   ·rename_i el hd
    split at e0
    ·rename_i ti z hti hz
     obtain⟨zv,E⟩:=kU hti
     obtain⟨it,zv',k1,k2,k3⟩:=lX hz
     rw [E.info] at k1;cases k1
     rw [E.zero] at k2;cases k2
     exact(Hl hd E (k3 M).1 h1 h2 e0).opq
    ·cases e0
   ·cases e0
  ·cases e0
 case buildSlice t len ps=>
  have hvl:=hv.length
  have e1:(Op.buildSlice t len ps).operands.toList.map a.eval=ps.toList.map fun p=>a.eval p.2:=by simp [Op.operands]
  rw [e1] at hv hvl
  have hl:vs.length=ps.toList.length:=by simpa using hvl.symm
  obtain⟨z1,z2⟩:=zip_fst (ρ:=a.eval) ps.toList hl
  have hys:(ps.map fun(i,x)=>(i,a.eval x)).toList=ps.toList.map fun p=>(p.1,a.eval p.2):=by simp
  have h1:((ps.toList.map (·.1)).zip vs).map (·.1)=(ps.map fun(i,x)=>(i,a.eval x)).toList.map (·.1):=by rw [hys];exact z1
  have h2:aX M (((ps.toList.map (·.1)).zip vs).map (·.2)) ((ps.map fun(i,x)=>(i,a.eval x)).toList.map (·.2)):=by
   rw [hys,z2,List.map_map];exact hv
  split at e0
  ·rename_i hz
   have hz:=Nat.eq_of_beq_eq_true hz
   subst hz
   unfold Ia at e0
   split at e0
   ·have hps:ps= #[]:=by
     cases ps with
     |mk l=>cases l with
      |nil=>rfl
      |cons x l=>simp at hl
    subst hps
    split at e0
    ·rename_i el hd
     split at e0
     ·rename_i ti hti
      cases e0
      have gd:kL P M w (Instr.buildSlice t 0 #[]) (.cells (.rw el true) []) (fun p=>.slice p 0 0 (.kn 0)):=⟨.slice (some ⟨w.heap.size,0,none⟩) 0 0,w.alloc (.cells #[] el),_,_,UF w t el ti hd hti,rfl,rfl,rfl,rfl,
       qE (M:=M) (w':=w.alloc (.cells #[] el)) [] #[] el (0,0) rfl (by simp) (by simp) true (fun _=>rfl) rfl,fun N p hp=>fB (o:=0) (n:=0) (k:=.kn 0) (m:=0) hp ⟨rfl,Nat.le_refl 0⟩⟩
      have gq:=gd.opq
      rw [show(#[]:Array (Nat×Value))=(#[]:Array (Nat×Operand)).map (fun x=>(x.1,a.eval x.2)) from by simp] at gq
      exact gq
     ·cases e0
    ·cases e0
   ·cases e0
  unfold lU at e0
  split at e0
  ·rename_i el hd
   split at e0
   ·rename_i ti hti
    obtain⟨zv,E⟩:=kU hti
    split at e0
    ·rename_i z hz
     rw [E.zero] at hz;cases hz
     split at e0
     ·rename_i zs qs hzs hq hp1 hp2
      exact(Eu hd E (by simpa [Nat.blt_eq] using hp1) (Nat.le_of_ble_eq_true hp2) (lH hzs M).1 hq h1 h2 e0).opq
     ·cases e0
    ·cases e0
   ·cases e0
  ·cases e0
end
end Go.Vm
namespace Go.Vm
noncomputable section
variable{P:Program}
def setH(h:Hp):R V→R V
 | .ok v _=>.ok v h
 | .bad=>.bad
theorem UD(h h':Hp)(v:V):setH h (.ok v h')=.ok v h:=rfl
def Pu(m:Hp→R V):Prop:=∀h g,m g=setH g (m h)
theorem Pu.ok(v:V):Pu fun h=>.ok v h:=fun _ _=>rfl
theorem Pu.bad:Pu fun _=>.bad:=fun _ _=>rfl
theorem Pu.asInt{v:V}{k:IntKind→Int→Hp→R V}(hk:∀a n,Pu (k a n)):Pu fun h=>asInt v fun a n=>k a n h:=by
 intro h g;unfold Vm.asInt;cases v<;>first|exact hk _ _ h g|rfl
theorem Pu.iP{v:V}{k:Pos→Nat→Hp→R V}(hk:∀a n,Pu (k a n)):Pu fun h=>iP v fun a n=>k a n h:=by
 intro h g;unfold Vm.iP;cases v<;>first|exact hk _ _ h g|rfl
theorem Pu.iU{v:V}{k:Nat→Hp→R V}(hk:∀n,Pu (k n)):Pu fun h=>iU v fun n=>k n h:=by
 intro h g;unfold Vm.iU;cases v<;>first|rfl|(rename_i a n;cases n<;>first|exact hk _ h g|rfl)
theorem Pu.asBool{v:V}{k:Bool→Hp→R V}(hk:∀n,Pu (k n)):Pu fun h=>asBool v fun n=>k n h:=by
 intro h g;unfold Vm.asBool;cases v<;>first|exact hk _ h g|rfl
theorem Pu.dX{v:Option V}{d:Nat}{k:Nat→Hp→R V}(hk:∀n,Pu (k n)):Pu fun h=>dX v d fun n=>k n h:=by
 intro h g;unfold Vm.dX;cases v<;>first|exact hk _ h g|exact Pu.iU hk h g
theorem I9(k:IntKind)(n:Int):Pu (fZ k n):=by intro h g;rw [fD,fD,UD]
theorem uX(b:Bool):Pu (cO b):=by intro h g;rw [dF,dF,UD]
theorem avS(c a b:V):Pu (Hy c a b):=Pu.asBool fun n=>by cases n<;>exact Pu.ok _
theorem TQ(x:V):Pu (aP x):=by
 intro h g;unfold aP;cases x<;>first|rfl|(rename_i fn _ _;cases fn<;>rfl)
theorem abt(n:Nat)(x:V):Pu (bM n x):=by
 intro h g;unfold bM;cases x<;>first|rfl|(simp only [];generalize abH n _=q;cases q<;>rfl)
theorem aIr(op:UnOp)(x:V):Pu (oUn op x):=by
 intro h g;unfold oUn;cases op<;>first|exact Pu.asInt (fun _ _=>I9 _ _) h g|exact Pu.asBool (fun _=>uX _) h g|rfl
theorem amI(op:BinOp)(k:IntKind)(a b:Int):Pu (qC op k a b):=by
 intro h g;simp only [qC,fD,bf];(repeat' split)<;>first|rfl|simp_all [setH]
theorem aEx(op:BinOp)(k:IntKind)(a b:Int):Pu (Aq op k a b):=by
 intro h g;simp only [Aq,fD,dF,bf];(repeat' split)<;>first|rfl|simp_all [setH]
theorem aEt(op:BinOp)(a b:List Nat):Pu (zF op a b):=by
 intro h g;simp only [zF,fD,dF,bf];(repeat' split)<;>first|rfl|simp_all [setH]
theorem avR(c:EqC)(x y:V){k:Bool→Hp→R V}(hk:∀b,Pu (k b)):Pu fun h=>wI c x y fun b=>k b h:=by
 intro h g;simp only [wI];(repeat' split)<;>first|rfl|exact hk _ h g|(simp_all [setH];done)
theorem aEy(op:BinOp)(c:EqC)(x y:V):Pu (aO op c x y):=by
 intro h g
 unfold aO
 cases x<;>(try cases y)<;>simp only []<;>first
  |rfl
  |exact aEt _ _ _ h g
  |(cases oD op<;>simp only []<;>first
    |exact amI _ _ _ _ h g
    |(split<;>first|exact aEx _ _ _ _ h g|rfl))
  |(cases op<;>first|rfl|exact avR _ _ _ (fun _=>uX _) h g)
theorem aEz(op:BinOp)(t:TypeId)(fs:Array Field)(x y:V):Pu (qZ P op t fs x y):=by
 intro h g
 unfold qZ
 cases x<;>try rfl
 cases y<;>try rfl
 simp only []
 split
 ·split
  ·cases op<;>first|exact uX _ h g|rfl
  ·rfl
 ·rfl
theorem pX{vs:List V}{k:V→Hp→R V}(hk:∀x,Pu (k x)):Pu fun h=>v1 vs fun x=>k x h:=by
 intro h g;unfold v1;rcases vs with _|⟨x,_|⟨y,l⟩⟩<;>first|rfl|exact hk _ h g
theorem abq{vs:List V}{k:V→V→Hp→R V}(hk:∀x y,Pu (k x y)):Pu fun h=>v2 vs fun x y=>k x y h:=by
 intro h g;unfold v2;rcases vs with _|⟨x,_|⟨y,_|⟨z,l⟩⟩⟩<;>first|rfl|exact hk _ _ h g
theorem aIq{vs:List V}{k:V→V→V→Hp→R V}(hk:∀x y z,Pu (k x y z)):Pu fun h=>v3 vs fun x y z=>k x y z h:=by
 intro h g;unfold v3;rcases vs with _|⟨x,_|⟨y,_|⟨z,_|⟨u,l⟩⟩⟩⟩<;>first|rfl|exact hk _ _ _ h g
theorem abv(k:IntKind)(x:V):Pu (dh k x):=Pu.asInt fun _ _=>I9 _ _
theorem abu(x:V):Pu (oQ x):=by intro h g;unfold oQ;cases x<;>rfl
theorem Ja(o:Nat)(x:V):Pu (aN o x):=by
 refine Pu.iP fun i n h g=>?_
 simp only [bf,setH]
theorem avT(sz:Nat)(x i:V):Pu (Ad sz x i):=by
 refine Pu.iU fun k h g=>?_
 simp only [bf]
 cases x<;>first|rfl|(simp only [];split<;>rfl)
theorem avU(l sz:Nat)(x i:V):Pu (abE l sz x i):=by
 refine Pu.iU fun k=>Pu.iP fun i o h g=>?_
 simp only [bf]
 split<;>rfl
theorem ahw(x i:V):Pu (bU x i):=by
 refine Pu.iU fun k h g=>?_
 cases x<;>first|rfl|(simp only [];split<;>rfl)
theorem TN(x:V)(lo hi:Option V):Pu (eF x lo hi):=by
 intro h g
 unfold eF
 cases x<;>try rfl
 rename_i s
 exact Pu.dX (k:=fun hh h=>dX lo 0 fun l=>match Nat.ble hh s.length,Nat.ble l hh with|true,true=>.ok (.str (takeN (hh - l) (qc l s))) h|_,_=>.bad)
  (fun hh=>Pu.dX (k:=fun l h=>match Nat.ble hh s.length,Nat.ble l hh with|true,true=>.ok (.str (takeN (hh - l) (qc l s))) h|_,_=>.bad) fun l=>by intro h g;simp only [];split<;>rfl) h g
theorem uV(sz:Nat)(i:Pos)(o len top:Nat)(lo hi:Option V)(m:Nat):Pu fun h=>qB sz i o len top lo hi h m:=by
 unfold qB
 refine Pu.dX fun hh=>Pu.dX fun l=>?_
 intro h g
 simp only [bf]
 split<;>rfl
theorem abr(sz:Nat)(i:Pos)(o len u:Nat)(lo hi:Option V):Pu fun h=>wG sz i o len u lo hi h:=by
 unfold wG
 refine Pu.dX fun hh=>Pu.dX fun l=>?_
 intro h g
 simp only [bf]
 split
 ·cases l
  ·rfl
  ·simp only []
   split<;>rfl
 ·rfl
theorem uU(v:V)(lo hi:Option V)(m:Nat):Pu fun h=>ny v lo hi h m:=by
 unfold ny
 refine Pu.dX fun hh=>Pu.dX fun l=>?_
 intro h g
 split<;>rfl
theorem amH(sz:Nat)(x:V)(lo hi mx:Option V):Pu (qK sz x lo hi mx):=by
 intro h g
 unfold qK
 split
 ·unfold zJ
  cases x<;>try rfl
  ·rename_i i o len cap
   cases cap with
   |kn c=>exact Pu.dX (fun m=>uV sz i o len c lo hi m) h g
   |un u=>cases mx with
    |none=>exact abr sz i o len u lo hi h g
    |some mv=>exact Pu.iU (fun m=>uV sz i o len len lo hi m) h g
  ·exact Pu.dX (fun m=>uU _ lo hi m) h g
  ·cases mx with
   |none=>exact uU _ lo hi 0 h g
   |some mv=>rfl
 ·rfl
theorem TP(sz len:Nat)(x:V)(lo hi mx:Option V):Pu (nD sz len x lo hi mx):=by
 intro h g
 unfold nD
 split
 ·exact Pu.iP (fun i o=>Pu.dX fun m=>uV sz i o len len lo hi m) h g
 ·rfl
theorem amJ(z:List V)(qs:List (Nat×Nat×V)):Pu (oU z qs):=by intro h g;unfold oU;split<;>rfl
theorem aEw(k:Nat)(x:V)(hk:Nat.beq k 3=false):Pu (fH k x):=by
 intro h g
 unfold fH
 split
 ·rename_i hf
  unfold abD
  cases x<;>try rfl
  simp only [lC] at hf
  rw [hf] at hk;cases hk
 ·rfl
theorem aEu(x y:V):Pu (abB x y):=Pu.asInt fun _ _=>Pu.asInt fun _ _=>by intro h g;split<;>rfl
theorem aEv(x y:V):Pu (abC x y):=Pu.asInt fun _ _=>Pu.asInt fun _ _=>by intro h g;split<;>rfl
theorem DZ{x:Option Operand}{vs:List V}{k:Option V→List V→Hp→R V}(hk:∀u us,Pu (k u us)):Pu fun h=>D8 x vs fun u us=>k u us h:=by
 intro h g
 unfold D8
 cases x<;>try exact hk _ _ h g
 cases vs<;>first|rfl|exact hk _ _ h g
def oP(P:Program)(op:Op):Bool:=match op with
 | .move _| .assign _| .pick .. | .build .. | .nilCheck _| .binOp .. | .unOp .. | .makeInterface .. | .makeFunc .. | .slice .. | .fieldAddr .. | .indexAddr .. | .index .. | .extract .. =>true
 | .convert s d _=>(match P.underlying s,P.underlying d with
  |some _,some (.int _)=>true
  |some .string,some .string=>true
  |_,_=>false)
 | .call c=>(match c.callee with
  | .builtin b=>(match b with
   | .min| .max=>true
   | .len=>(match c.argTypes.toList with
    | [t]=>(match P.underlying t with|some d=>not (Nat.beq (jT d) 3)|none=>false)
    |_=>false)
   |_=>false)
  |_=>false)
 |_=>false
theorem pure_ok{e:FuncId→Option Fun}{op:Op}(vs:List V)(hp:oP P op=true):Pu (dY P e op vs):=by
 cases op<;>simp only [oP] at hp<;>try (cases hp;done)
 case move x=>exact pX fun x=>Pu.ok x
 case assign x=>exact pX fun x=>Pu.ok x
 case pick c a b=>exact aIq fun c a b=>avS c a b
 case build t ps=>
  intro h g
  simp only [dY,NW]
  (repeat' split)<;>first|rfl|exact amJ _ _ h g|simp_all [setH]
 case nilCheck x=>exact pX fun x=>TQ x
 case binOp op t xo yo l=>
  refine abq fun x y h g=>?_
  simp only [agx]
  (repeat' split)<;>first|rfl|exact aEz _ _ _ _ _ h g|exact aEy _ _ _ _ h g|simp_all [setH]
 case unOp op t x=>exact pX fun x=>aIr op x
 case convert s d x=>
  refine pX fun x h g=>?_
  simp only [jK]
  split at hp
  ·rename_i h1 h2;simp only [h1,h2];exact abv _ _ h g
  ·rename_i h1 h2;simp only [h1,h2];exact abu _ h g
  ·cases hp
 case makeInterface t x=>
  refine pX fun x h g=>?_
  simp only [NU]
  (repeat' split)<;>first|rfl|simp_all [setH,Jy]
 case makeFunc fn f c=>
  intro h g
  simp only [dY,agw]
  split<;>first|rfl|(unfold Hz;cases D6 fn<;>rfl)
 case slice t x lo hi mx=>
  intro h g
  simp only [dY]
  cases vs with
  |nil=>rfl
  |cons x vs=>
   refine DZ (fun lo vs=>DZ fun hi vs=>DZ fun mx vs h g=>?_) h g
   simp only [NQ]
   split
   ·cases mx with
    |none=>exact TN _ _ _ h g
    |some _=>rfl
   ·split
    ·exact amH _ _ _ _ _ h g
    ·rfl
   ·split
    ·exact TP _ _ _ _ _ _ h g
    ·rfl
   ·rfl
 case fieldAddr t x n=>
  refine pX fun x h g=>?_
  simp only [NV]
  (repeat' split)<;>first|rfl|exact Ja _ _ h g
 case indexAddr t x i=>
  refine abq fun x y h g=>?_
  simp only [tX]
  (repeat' split)<;>first|rfl|exact avT _ _ _ h g|exact avU _ _ _ _ h g
 case index t x i=>
  refine abq fun x y h g=>?_
  simp only [NT]
  (repeat' split)<;>first|rfl|exact ahw _ _ h g
 case extract x n=>exact pX fun x=>abt n x
 case call c=>
  obtain⟨callee,args,argTypes⟩:=c
  cases callee with
  |invoke rc m=>cases hp
  |value f=>cases hp
  |builtin b=>
   intro h g
   simp only [dY,Ib,sJ]
   cases b<;>simp only [] at hp⊢<;>try (cases hp;done)
   case len=>
    split at hp
    ·rename_i t ht
     split at hp
     ·rename_i d hd
      rw [ht]
      rcases vs with _|⟨x,_|⟨y,l⟩⟩<;>try rfl
      simp only [hd]
      have hk:Nat.beq (jT d) 3=false:=by simpa using hp
      cases d<;>first|exact aEw _ _ hk h g|rfl
     ·cases hp
    ·cases hp
   all_goals (rcases vs with _|⟨x,_|⟨y,_|⟨z,l⟩⟩⟩<;>first|rfl|exact aEu _ _ h g|exact aEv _ _ h g)
def zT(P:Program)(op:Op):Bool:=match op with
 | .load .. =>true
 | .lookup .. =>true
 | .convert s d _=>(match P.underlying s,P.underlying d with
  |some (.slice _),some .string=>true
  |_,_=>false)
 | .call c=>(match c.callee with
  | .builtin b=>(match b with
   | .len=>true
   |_=>false)
  |_=>false)
 |_=>oP P op
theorem Pu.same{m:Hp→R V}(hm:Pu m){h h':Hp}{v:V}(e:m h=.ok v h'):h'=h:=by
 have:=hm h h
 rw [e] at this
 cases this;rfl
theorem abR{a:V}{h h':Hp}{v:V}(e:aW a h=.ok v h'):h'=h:=by
 obtain⟨i,o,rfl,e⟩:=fO e
 obtain⟨w,cs,_,e⟩:=dG e
 split at e<;>cases e;rfl
theorem abQ{n:Nat}{a:V}{h h':Hp}{v:V}(e:lQ n a h=.ok v h'):h'=h:=by
 obtain⟨i,o,rfl,e⟩:=fO e
 obtain⟨w,cs,_,e⟩:=dG e
 split at e<;>cases e;rfl
theorem Hf{a:V}{h h':Hp}{v:V}(e:dR a h=.ok v h'):h'=h:=by
 unfold dR at e
 split at e
 ·cases e;rfl
 ·cases e;rfl
 ·obtain⟨w,cs,_,e⟩:=dG e
  split at e
  ·split at e<;>cases e;rfl
  ·cases e
 ·cases e
theorem ajw{k:Nat}{a:V}{h h':Hp}{v:V}(e:fH k a h=.ok v h'):h'=h:=by
 unfold fH at e
 split at e
 ·unfold abD at e
  split at e<;>first|(cases e;rfl)|cases e|skip
  split at e<;>first|(cases e;rfl)|cases e
 ·cases e
theorem sQ{ok b:Bool}{v r:V}{h h':Hp}(e:wU ok v b h=.ok r h'):h'=h:=by
 unfold wU at e
 cases ok<;>cases e<;>rfl
theorem TU{ok:Bool}{z m x r:V}{h h':Hp}(e:qL ok z m x h=.ok r h'):h'=h:=by
 unfold qL at e
 split at e
 ·exact sQ e
 ·split at e
  ·unfold abO at e
   split at e
   ·split at e
    ·exact sQ e
    ·exact sQ e
   ·cases e
  ·cases e
 ·cases e
theorem NS{t:TypeId}{ok:Bool}{m x r:V}{h h':Hp}(e:qY P t ok m x h=.ok r h'):h'=h:=by
 unfold qY at e
 split at e
 ·split at e
  ·split at e
   ·split at e
    ·unfold Jv at e
     split at e
     ·exact TU e
     ·cases e
    ·cases e
   ·cases e
  ·cases e
 ·cases e
theorem ahf{e:FuncId→Option Fun}{op:Op}{vs:List V}{h h':Hp}{v:V}(hp:zT P op=true)(e0:dY P e op vs h=.ok v h'):h'=h:=by
 by_cases hpu:oP P op=true
 ·exact(pure_ok vs hpu).same e0
 ·cases op<;>simp only [zT,oP] at hp hpu<;>try (first|(cases hp;done)|exact absurd rfl hpu|exact absurd hp hpu)
  case load t x=>
   simp only [dY] at e0
   obtain⟨x,rfl,e0⟩:=kD e0
   unfold xA at e0
   split at e0
   ·split at e0
    ·split at e0
     ·exact abQ e0
     ·cases e0
    ·exact abR e0
   ·cases e0
  case lookup t m x ok=>
   simp only [dY] at e0
   obtain⟨m,x,rfl,e0⟩:=pU e0
   exact NS e0
  case convert s d x=>
   simp only [dY] at e0
   obtain⟨x,rfl,e0⟩:=kD e0
   unfold jK at e0
   split at hp
   ·rename_i h1 h2
    simp only [h1,h2] at e0
    split at e0
    ·exact Hf e0
    ·cases e0
   ·cases hp
  case call c=>
   obtain⟨callee,args,argTypes⟩:=c
   cases callee with
   |invoke rc m=>cases hp
   |value f=>cases hp
   |builtin b=>
    cases b<;>simp only [] at hp<;>try (cases hp;done)
    simp only [dY,Ib] at e0
    rcases hT:argTypes.toList with _|⟨t,_|⟨t2,l⟩⟩<;>rw [hT] at e0<;>rcases vs with _|⟨x,_|⟨y,l2⟩⟩<;>try (cases e0;done)
    simp only [sJ] at e0
    split at e0
    ·cases e0;rfl
    ·exact ajw e0
    ·cases e0
end
end Go.Vm
namespace Go.Vm
noncomputable section
variable{G:Nat}{M M':Mp}{f b f' b':Hp}{w w':World}
theorem Rel.sub(r:Rel G M f w)(hs:∀i o,b.get i=some o→f.get i=some o)(hn:f.next.nat≤b.next.nat):Rel G M b w:=
 ⟨fun i o hi=>r.ob i o (hs i o hi),fun i hi=>r.fresh i (by omega),fun i j o p L K hn hi hj=>r.sep i j o p L K hn (hs _ _ hi) (hs _ _ hj),r.gl⟩
theorem Rel.frame(r:Rel G M f w)(hs:∀i o,b.get i=some o→f.get i=some o)(hnb:b.next=f.next)(r':Rel G M' b' w')(x:Ext M b w M' b' w')
  (hf:∀i o,f'.get i=some o→b'.get i=some o∨(f.get i=some o∧b.get i=none)) (hn:f'.next=b'.next):
  Rel G M' f' w'∧Ext M f w M' f' w':=by
 have blk:∀i o L,f.get i=some o→b.get i=none→M i=some L→w'.heap[L.blk]?=w.heap[L.blk]?∧L.blk<w.heap.size:=by
  intro i o L hi hb hL
  obtain⟨L',hL',ho⟩:=r.ob i o hi
  rw [hL] at hL';cases hL'
  refine⟨x.same _ ho.lt (fun j p K hj hp hK e=>?_),ho.lt⟩
  have hne:j≠i:=fun e=>by subst e;rw [hb] at hj;cases hj
  exact r.sep j i p o K L hne (hs _ _ hj) hi hp hK hL e
 have loc:∀i o L,f.get i=some o→M' i=some L→M i=some L:=by
  intro i o L hi hL
  obtain⟨L',hL',_⟩:=r.ob i o hi
  have:=x.le _ _ hL'
  rw [hL] at this;cases this;exact hL'
 refine⟨⟨fun i o hi=>?_,fun i hi=>r'.fresh i (by rw [←hn];exact hi),fun i j o p L K hij hi hj ho hL hK=>?_,r'.gl⟩,⟨x.le,by rw [hn,←hnb];exact x.next,x.os,x.tape,x.output,x.size,fun k hk hno=>?_,fun i o L hi ho hL=>?_,fun i hi hfi=>?_,fun i o L hi hL=>?_,fun i hi hM=>x.none i (by rw [hnb];exact hi) hM⟩⟩
 ·rcases hf i o hi with h1|⟨h1,h2⟩
  ·exact r'.ob i o h1
  ·obtain⟨L,hL,ho⟩:=r.ob i o h1
   exact⟨L,x.le _ _ hL,(ho.of_block (blk i o L h1 h2 hL).1).mono x.le⟩
 ·rcases hf i o hi with h1|⟨h1,h2⟩<;>rcases hf j p hj with k1|⟨k1,k2⟩
  ·exact r'.sep i j o p L K hij h1 k1 ho hL hK
  ·have hK':=loc j p K k1 hK
   have hlt:=(blk j p K k1 k2 hK').2
   rcases x.own i o L h1 ho hL with h3|⟨i',o',L',a1,a2,a3,a4⟩
   ·omega
   ·have hne:i'≠j:=fun e=>by subst e;rw [k2] at a1;cases a1
    rw [←a4]
    exact r.sep i' j o' p L' K hne (hs _ _ a1) k1 a2 a3 hK'
  ·have hL':=loc i o L h1 hL
   have hlt:=(blk i o L h1 h2 hL').2
   rcases x.all j p K k1 hK with h3|⟨j',p',K',a1,a3,a4⟩
   ·omega
   ·have hne:i≠j':=fun e=>by subst e;rw [h2] at a1;cases a1
    rw [←a4]
    exact r.sep i j' o p' L K' hne h1 (hs _ _ a1) ho hL' a3
  ·exact r.sep i j o p L K hij h1 k1 ho (loc i o L h1 hL) (loc j p K k1 hK)
 ·exact x.same k hk fun i o L hi ho hL=>hno i o L (hs _ _ hi) ho hL
 ·rcases hf i o hi with h1|⟨h1,h2⟩
  ·rcases x.own i o L h1 ho hL with h3|⟨j,p,K,a1,a2,a3,a4⟩
   ·exact .inl h3
   ·exact .inr ⟨j,p,K,hs _ _ a1,a2,a3,a4⟩
  ·exact .inr ⟨i,o,L,h1,ho,loc i o L h1 hL,rfl⟩
 ·cases hg:f'.get i with
  |none=>rfl
  |some o=>
   rcases hf i o hg with h1|⟨h1,_⟩
   ·have hbi:b.get i=none:=by
     cases hb:b.get i with
     |none=>rfl
     |some q=>have:=hs i q hb;rw [hfi] at this;cases this
    have:=x.old i (by rw [hnb];exact hi) hbi
    rw [h1] at this;cases this
   ·rw [hfi] at h1;cases h1
 ·rcases hf i o hi with h1|⟨h1,h2⟩
  ·rcases x.all i o L h1 hL with h3|⟨j,p,K,a1,a3,a4⟩
   ·exact .inl h3
   ·exact .inr ⟨j,p,K,hs _ _ a1,a3,a4⟩
  ·exact .inr ⟨i,o,L,h1,loc i o L h1 hL,rfl⟩
theorem Rel.putAt{h:Hp}(r:Rel G M h w){p:Pos}(hp:M p=none)(hlt:p.nat<h.next.nat)(o:Ob)(c:Obj)(n:Nat)
  (hw:w'.heap=w.heap.push c) (ho:∀N:Mp,M.le N→dV N ⟨w.heap.size,0,n⟩ w' o):
  Rel G (M.add p ⟨w.heap.size,0,n⟩) (h.put p (some o)) w':=by
 have hle:=Mp.qQ hp ⟨w.heap.size,0,n⟩
 have hold:∀k,k<w.heap.size→w'.heap[k]?=w.heap[k]?:=fun k hk=>by rw [hw,Array.getElem?_push,if_neg (by omega)]
 refine⟨fun i q hi=>?_,fun i hi=>?_,fun i j q s L K hn hi hj hq hL hK=>?_,fun g hg=>?_⟩
 ·by_cases e:i=p
  ·subst e
   rw [h.bC] at hi
   cases hi
   exact⟨_,M.bZ _ _,ho _ hle⟩
  ·rw [h.aY e] at hi
   obtain⟨L,hL,hr⟩:=r.ob i q hi
   exact⟨L,by rw [M.dM e];exact hL,(hr.of_block (hold _ hr.lt)).mono hle⟩
 ·have hi':h.next.nat≤i.nat:=hi
  have e:i≠p:=fun e=>by rw [e] at hi';omega
  rw [M.dM e]
  exact r.fresh i hi'
 ·by_cases ei:i=p
  ·subst ei
   rw [M.bZ] at hL
   cases hL
   have ej:j≠i:=fun e=>hn e.symm
   rw [M.dM ej] at hK
   rw [h.aY ej] at hj
   obtain⟨K',hK',hr⟩:=r.ob j s hj
   rw [hK] at hK';cases hK'
   have:=hr.lt
   show w.heap.size≠K.blk
   omega
  ·rw [M.dM ei] at hL
   rw [h.aY ei] at hi
   obtain⟨L',hL',hr⟩:=r.ob i q hi
   rw [hL] at hL';cases hL'
   by_cases ej:j=p
   ·subst ej
    rw [M.bZ] at hK
    cases hK
    have:=hr.lt
    show L.blk≠w.heap.size
    omega
   ·rw [M.dM ej] at hK
    rw [h.aY ej] at hj
    exact r.sep i j q s L K hn hi hj hq hL hK
 ·obtain⟨n',hg'⟩:=r.gl g hg
  exact⟨n',hle _ _ hg'⟩
theorem Ext.putAt{M₀:Mp}{h₀ h:Hp}{w₀:World}(x:Ext M₀ h₀ w₀ M h w){p:Pos}(hp:M p=Option.none)(hge:h₀.next.nat≤p.nat)(o:Ob)(c:Obj)(n:Nat)
  (hw:w'.heap=w.heap.push c) (hos:w'.os=w.os) (ht:w'.tape=w.tape) (hout:w'.output=w.output):
  Ext M₀ h₀ w₀ (M.add p ⟨w.heap.size,0,n⟩) (h.put p (some o)) w':=by
 have hle:=Mp.qQ hp ⟨w.heap.size,0,n⟩
 have hsz:w'.heap.size=w.heap.size+1:=by rw [hw];simp
 have hold:∀k,k<w.heap.size→w'.heap[k]?=w.heap[k]?:=fun k hk=>by rw [hw,Array.getElem?_push,if_neg (by omega)]
 have hs:=x.size
 refine⟨Mp.le_trans x.le hle,x.next,hos.trans x.os,ht.trans x.tape,hout.trans x.output,by omega,fun k hk hno=>?_,fun i q L hi hq hL=>?_,fun i hi hn=>?_,fun i q L hi hL=>?_,fun i hi hn=>?_⟩
 ·rw [hold k (by omega)]
  exact x.same k hk hno
 ·by_cases e:i=p
  ·subst e;rw [M.bZ] at hL;cases hL;exact .inl hs
  ·rw [h.aY e] at hi;rw [M.dM e] at hL;exact x.own i q L hi hq hL
 ·have e:i≠p:=fun e=>by subst e;omega
  rw [h.aY e];exact x.old i hi hn
 ·by_cases e:i=p
  ·subst e;rw [M.bZ] at hL;cases hL;exact .inl hs
  ·rw [h.aY e] at hi;rw [M.dM e] at hL;exact x.all i q L hi hL
 ·have e:i≠p:=fun e=>by subst e;omega
  rw [M.dM e];exact x.none i hi hn
theorem Rel.congr{h g:Hp}(r:Rel G M h w)(hg:∀i,g.get i=h.get i)(hn:g.next=h.next):Rel G M g w:=
 r.sub (fun i o hi=>by rw [←hg];exact hi) (by rw [hn];exact Nat.le_refl _)
theorem Ext.congr{M₀:Mp}{h₀ h g:Hp}{w₀:World}(x:Ext M₀ h₀ w₀ M h w)(hg:∀i,g.get i=h.get i)(hn:g.next=h.next):Ext M₀ h₀ w₀ M g w:=
 ⟨x.le,by rw [hn];exact x.next,x.os,x.tape,x.output,x.size,x.same,fun i o L hi=>x.own i o L (by rw [←hg];exact hi),fun i hi h0=>by rw [hg];exact x.old i hi h0,
  fun i o L hi=>x.all i o L (by rw [←hg];exact hi),x.none⟩
def oO(h:Hp):List (Pos×Ob)→Hp
 | []=>h
 |(p,o)::l=>(oO h l).put p (some o)
theorem TM(h:Hp)(l:List (Pos×Ob)):(oO h l).next=h.next:=by
 induction l with
 |nil=>rfl
 |cons x l ih=>exact ih
theorem DX{h:Hp}{l:List (Pos×Ob)}{i:Pos}(hn:∀o,(i,o)∉l):(oO h l).get i=h.get i:=by
 induction l with
 |nil=>rfl
 |cons x l ih=>
  have hne:i≠x.1:=fun e=>hn x.2 (by rw [e];simp)
  show((oO h l).put x.1 (some x.2)).get i=_
  rw [Hp.aY _ hne]
  exact ih fun o ho=>hn o (by simp [ho])
theorem DY{h:Hp}{l:List (Pos×Ob)}{i:Pos}{o:Ob}(hm:(i,o)∈l)(hd:∀o',(i,o')∈l→o'=o):(oO h l).get i=some o:=by
 induction l with
 |nil=>cases hm
 |cons x l ih=>
  show((oO h l).put x.1 (some x.2)).get i=_
  by_cases e:i=x.1
  ·subst e
   rw [Hp.bC]
   rw [hd x.2 (by simp)]
  ·rw [Hp.aY _ e]
   refine ih ?_ (fun o' ho=>hd o' (by simp [ho]))
   rcases List.mem_cons.1 hm with rfl|hm
   ·exact absurd rfl e
   ·exact hm
end
end Go.Vm
namespace Go.Vm
noncomputable section
variable{P:Program}
theorem IB:∀{s t:List Nat},gQ s t=true→s=t
 | [],[],_=>rfl
 | [],b::y,h=>by cases h
 |a::x,[],h=>by cases h
 |a::x,b::y,h=>by
  simp only [gQ] at h
  split at h
  ·rename_i hb;rw [Nat.eq_of_beq_eq_true hb,IB h]
  ·cases h
theorem anf{a b:Int}(h:iK a b=true):a=b:=by rw [jl] at h;simpa using h
def eqV(a:V):V→Bool:=
 V.rec (motive:=fun _=>V→Bool)
  (fun b x=>match x with| .bool c=>(match b,c with|true,true=>true|false,false=>true|_,_=>false)|_=>false)
  (fun k n x=>match x with| .int k' n'=>(match Nat.beq (kix k) (kix k') with|true=>iK n n'|false=>false)|_=>false)
  (fun s x=>match x with| .str t=>gQ s t|_=>false)
  (fun i o x=>match x with| .ptr j p=>(match i.eq j with|true=>Nat.beq o p|false=>false)|_=>false)
  (fun x=>match x with| .fJ=>true|_=>false)
  (fun i o n c x=>match x with
   | .slice j p m d=>(match i.eq j,Nat.beq o p,Nat.beq n m with
    |true,true,true=>(match c,d with| .kn a,.kn b=>Nat.beq a b| .un a,.un b=>Nat.beq a b|_,_=>false)
    |_,_,_=>false)
   |_=>false)
  (fun x=>match x with| .af=>true|_=>false)
  (fun x=>match x with| .emp=>true|_=>false)
  (fun i x=>match x with| .map j=>i.eq j|_=>false)
  (fun x=>match x with| .gG=>true|_=>false)
  (fun _ _ _ _ _ _=>false)
  (fun x=>match x with| .iR=>true|_=>false)
  (fun t _ ih x=>match x with| .iface u w=>(match Nat.beq t u with|true=>ih w|false=>false)|_=>false)
  (fun x=>match x with| .iw=>true|_=>false)
  (fun _ ih x=>match x with| .agg w=>ih w|_=>false)
  (fun _ ih x=>match x with| .tuple w=>ih w|_=>false)
  (fun x=>match x with| .nil=>true|_=>false)
  (fun _ _ ih1 ih2 x=>match x with| .cons u w=>(match ih1 u with|true=>ih2 w|false=>false)|_=>false)
  a
theorem je:∀{a b:V},eqV a b=true→a=b:=by
 intro a
 induction a with
 |bool b=>intro x h;cases x<;>first|(cases h;done)|(rename_i c;cases b<;>cases c<;>first|rfl|cases h)
 |int k n=>
  intro x h
  cases x<;>try (cases h;done)
  rename_i k' n'
  simp only [eqV] at h
  split at h
  ·rename_i hk
   rw [mD hk,anf h]
  ·cases h
 |str s=>intro x h;cases x<;>first|(cases h;done)|(rename_i t;rw [IB h])
 |ptr i o=>
  intro x h
  cases x<;>try (cases h;done)
  simp only [eqV] at h
  split at h
  ·rename_i hi;rw [Pos.eq_iff.1 hi,Nat.eq_of_beq_eq_true h]
  ·cases h
 |fJ=>intro x h;cases x<;>first|(cases h;done)|rfl
 |slice i o n c=>
  intro x h
  cases x<;>try (cases h;done)
  simp only [eqV] at h
  split at h
  ·rename_i h1 h2 h3
   rw [Pos.eq_iff.1 h1,Nat.eq_of_beq_eq_true h2,Nat.eq_of_beq_eq_true h3]
   split at h
   ·rw [Nat.eq_of_beq_eq_true h]
   ·rw [Nat.eq_of_beq_eq_true h]
   ·cases h
  ·cases h
 |af=>intro x h;cases x<;>first|(cases h;done)|rfl
 |emp=>intro x h;cases x<;>first|(cases h;done)|rfl
 |map i=>intro x h;cases x<;>first|(cases h;done)|(rw [Pos.eq_iff.1 h])
 |gG=>intro x h;cases x<;>first|(cases h;done)|rfl
 |func fn a b iha ihb=>intro x h;cases h
 |iR=>intro x h;cases x<;>first|(cases h;done)|rfl
 |iface t v ih=>
  intro x h
  cases x<;>try (cases h;done)
  simp only [eqV] at h
  split at h
  ·rename_i ht;rw [Nat.eq_of_beq_eq_true ht,ih h]
  ·cases h
 |iw=>intro x h;cases x<;>first|(cases h;done)|rfl
 |agg a ih=>intro x h;cases x<;>first|(cases h;done)|(rw [ih h])
 |tuple a ih=>intro x h;cases x<;>first|(cases h;done)|(rw [ih h])
 |nil=>intro x h;cases x<;>first|(cases h;done)|rfl
 |cons a b iha ihb=>
  intro x h
  cases x<;>try (cases h;done)
  simp only [eqV] at h
  split at h
  ·rename_i ht;rw [iha ht,ihb h]
  ·cases h
end
end Go.Vm
namespace Go.Vm
noncomputable section
variable{P:Program}{e:FuncId→Option Fun}{ops:Array Oper}{sb:Nat→Nat→Bool}{fr:F}
inductive Cls where
 |pure
 |read (cnt:Nat)
 |alloc
 |heavy
 |own (a:Nat)
 |ins (a:Nat)
abbrev Plan:=List (Nat×Cls)
def lM(ops:Array Oper)(sb:Nat→Nat→Bool)(i t:Nat):Bool:=(List.range ops.size).any fun i'=>(match ops[i']? with
 |some o'=>(match o'.dst with|some d=>(match Nat.beq d t with|true=>sb i' i|false=>false)|none=>false)
 |none=>false)
def yD(ops:Array Oper)(sb:Nat→Nat→Bool)(fr:F)(i:Nat)(env:Env)(x:Operand)(k:V→Out):Out:=match x with
 | .tmp t=>(match lM ops sb i t with
  |true=>(match aZ t env with|some v=>k v|none=>.bad)
  |false=>gt (Pos.of t) fr k)
 | .const c=>(match const c with|some v=>k v|none=>.bad)
 | .global g=>k (.ptr (Pos.of g) 0)
 | .func f=>k (.func (.func f) .nil .nil)
def jU(ops:Array Oper)(sb:Nat→Nat→Bool)(fr:F)(i:Nat)(env:Env):List Operand→(List V→Out)→Out
 | [],k=>k []
 |x::l,k=>yD ops sb fr i env x fun v=>jU ops sb fr i env l fun vs=>k (v::vs)
def jq(d:Option Nat)(v:V)(env:Env)(k:Env→Out):Out:=match d with
 |none=>k env
 |some d=>(match aZ d env with|none=>k ((d,v)::env)|some _=>.bad)
def chk(m:Hp→R V)(v:V)(k:Out):Nat→List Hp→Out
 |0,_=>k
 |_+1,[]=>k
 |n+1,g::l=>(match m g with| .ok v' _=>(match eqV v v' with|true=>chk m v k n l|false=>.bad)| .bad=>.bad)
def wO(P:Program)(op:Op):Bool:=match op with
 | .convert s d _=>(match P.underlying s,P.underlying d with
  |some (.slice _),some .string=>true
  |_,_=>false)
 |_=>false
def yx(v:V):Option Pos:=match v with| .slice i _ _ _=>some i|_=>none
def amK(u:V)(q:Pos)(k:Out):Out:=match yx u with
 |some p=>(match Nat.blt p.nat q.nat with|true=>k|false=>.bad)
 |none=>.bad
theorem Jg{op:Op}{u:V}{p:Pos}(ho:wO P op=true)(hu:yx u=some p){h g h':Hp}{v:V}(hg:g.get p=h.get p)(e0:dY P e op [u] h=.ok v h'):dY P e op [u] g=.ok v g:=by
 cases op<;>simp only [wO] at ho<;>try (cases ho;done)
 rename_i s d x
 show jK P s d u g=.ok v g
 have e1:jK P s d u h=.ok v h':=e0
 unfold jK at e1⊢
 split at ho
 ·rename_i el h1 h2
  rw [h1,h2] at e1⊢
  simp only [] at e1⊢
  split at e1
  ·rename_i h3
   cases u<;>try (cases hu;done)
   rename_i i o n c
   cases hu
   have e2:dL h p (fun _ cs=>(match fP n (eY o cs) with
    |some l=>(match jd l with|some s=>R.ok (V.str s) h|none=>.bad)
    |none=>.bad))=.ok v h':=e1
   show dL g p (fun _ cs=>(match fP n (eY o cs) with
    |some l=>(match jd l with|some s=>R.ok (V.str s) g|none=>.bad)
    |none=>.bad))=.ok v g
   unfold dL at e2⊢
   rw [hg]
   cases ho2:h.get p with
   |none=>rw [ho2] at e2;cases e2
   |some ob=>
    rw [ho2] at e2
    have fin:∀cs:List V,(match fP n (eY o cs) with
      |some l=>(match jd l with|some s=>R.ok (V.str s) h|none=>.bad)
      |none=>.bad)=.ok v h'→(match fP n (eY o cs) with
      |some l=>(match jd l with|some s=>R.ok (V.str s) g|none=>.bad)
      |none=>.bad)=R.ok v g:=by
     intro cs e3
     split at e3
     ·rename_i l hl
      split at e3
      ·rename_i s hs
       cases e3
       rfl
      ·cases e3
     ·cases e3
    cases ob<;>first|exact fin _ e2|cases e2
  ·cases e1
 ·cases ho
theorem UL{op:Op}{u:V}{p:Pos}(ho:wO P op=true)(hu:yx u=some p){h h':Hp}{v:V}(e0:dY P e op [u] h=.ok v h'):∃cs,(h.get p).bind Ob.row=some cs:=by
 cases op<;>simp only [wO] at ho<;>try (cases ho;done)
 rename_i s d x
 have e1:jK P s d u h=.ok v h':=e0
 unfold jK at e1
 split at ho
 ·rename_i el h1 h2
  rw [h1,h2] at e1
  simp only [] at e1
  split at e1
  ·cases u<;>try (cases hu;done)
   rename_i i o n c
   cases hu
   have e2:dL h p (fun _ cs=>(match fP n (eY o cs) with
    |some l=>(match jd l with|some s=>R.ok (V.str s) h|none=>.bad)
    |none=>.bad))=.ok v h':=e1
   obtain⟨w,cs,h3,_⟩:=dG e2
   exact⟨_,h3⟩
  ·cases e1
 ·cases ho
theorem as3{op:Op}{vs:List V}{ob:Ob}{mk:Pos→V}(e0:kC P op vs=some (ob,mk)){p i:Pos}(h:yx (mk p)=some i):i=p:=by
 have key:∀{m:Pos→V},(∀p,yx (m p)=none∨yx (m p)=some p)→mk=m→i=p:=fun hm hmk=>by
  rw [hmk] at h
  rcases hm p with h1|h1
  ·rw [h1] at h;cases h
  ·rw [h1] at h;cases h;rfl
 have slice:∀{l o:Nat} {c:Cap},mk=(fun p=>.slice p o l c)→i=p:=fun hmk=>key (fun p=>.inr rfl) hmk
 have ptr:∀{o:Nat},mk=(fun p=>.ptr p o)→i=p:=fun hmk=>key (fun p=>.inl rfl) hmk
 have ab:∀{el:TypeId} {z:List V} {len:Nat} {qs:List (Nat×Nat×V)},gJ el z len qs=some (ob,mk)→i=p:=fun e1=>by
  unfold gJ at e1
  split at e1
  ·cases e1;exact slice rfl
  ·cases e1
 cases op<;>simp only [kC] at e0<;>try (cases e0;done)
 case alloc t=>
  split at e0
  ·split at e0
   ·cases e0;exact ptr rfl
   ·cases e0
  ·cases e0
 case box t x=>
  split at e0
  ·unfold Oo at e0
   split at e0
   ·cases e0;exact ptr rfl
   ·cases e0
  ·cases e0
 case buildSlice t len ps=>
  split at e0
  ·unfold Ia at e0
   (repeat' split at e0)<;>first|(cases e0;exact slice rfl)|cases e0
  ·unfold lU at e0
   (repeat' split at e0)<;>first|exact ab e0|cases e0
 case makeSlice t l c=>
  unfold lV at e0
  (repeat' split at e0)<;>first|(cases e0;exact slice rfl)|cases e0
 case makeMap t r=>
  (repeat' split at e0)<;>first|(cases e0;exact key (fun p=>.inl rfl) rfl)|cases e0
 case convert s d x=>
  unfold nJ at e0
  (repeat' split at e0)<;>first|(cases e0;exact slice rfl)|cases e0
def Eb(x:V)(es:List (V×V)):Bool:=List.rec (motive:=fun _=>Bool) true (fun p _ ih=>match dZ x p.1 with|some b=>(match b with|true=>false|false=>ih)|none=>false) es
theorem UX{x:V}:∀{es:List (V×V)},Eb x es=true→∀(n:Nat) k v,es[n]?=some (k,v)→dZ x k=some false
 | [],_,n,k,v,hn=>by simp at hn
 |(k0,v0)::es,h,n,k,v,hn=>by
  have e:Eb x ((k0,v0)::es)=(match dZ x k0 with|some b=>(match b with|true=>false|false=>Eb x es)|none=>false):=rfl
  rw [e] at h
  split at h
  ·rename_i b hb
   split at h
   ·cases h
   ·cases n with
    |zero=>simp at hn;obtain⟨rfl,rfl⟩:=hn;exact hb
    |succ n=>exact UX h n k v (by simpa using hn)
  ·cases h
def ang(d:TypeDesc)(m x y:V)(base cur:Hp)(q:Pos)(k:Hp→Out):Out:=match iJ d x with
 |true=>(match m with
  | .map p=>(match Nat.blt p.nat q.nat with
   |true=>(match base.get p with
    |none=>(match cur.get p with
     |some ob=>(match ob with
      | .map es=>(match Eb x es with|true=>k (cur.put p (some (.map (es++ [(x,y)]))))|false=>.bad)
      |_=>.bad)
     |none=>.bad)
    |some _=>.bad)
   |false=>.bad)
  |_=>.bad)
 |false=>.bad
def yJ(P:Program)(op:Op)(vs:List V)(base cur:Hp)(q:Pos)(k:Hp→Out):Out:=match op with
 | .insert t _ _ _=>(match P.underlying t with
  |some (.map kt _)=>(match P.underlying kt with|some d=>(match vs with| [m,x,y]=>ang d m x y base cur q k|_=>.bad)|none=>.bad)
  |_=>.bad)
 |_=>.bad
def avI(P:Program)(op:Op)(x:V):Prop:=∃t mm kk vv kt et d,op=.insert t mm kk vv∧P.underlying t=some (.map kt et)∧P.underlying kt=some d∧iJ d x=true
theorem X7{op:Op}{vs:List V}{base cur:Hp}{q:Pos}{k:Hp→Out}{out:Out}(hb:out≠ .bad)(h:yJ P op vs base cur q k=out):
  ∃p x y es,vs= [.map p,x,y]∧avI P op x∧p.nat<q.nat∧base.get p=none∧cur.get p=some (.map es)∧Eb x es=true∧k (cur.put p (some (.map (es++ [(x,y)]))))=out:=by
 unfold yJ at h
 split at h
 ·rename_i t mm kk vv
  split at h
  ·rename_i kt et hkt
   split at h
   ·rename_i d hd
    split at h
    ·rename_i m x y
     unfold ang at h
     split at h
     ·rename_i hf
      split at h
      ·rename_i p
       split at h
       ·rename_i hlt
        split at h
        ·rename_i hbp
         split at h
         ·rename_i ob hcp
          split at h
          ·rename_i es
           split at h
           ·rename_i hn
            exact⟨p,x,y,es,rfl,⟨t,mm,kk,vv,kt,et,d,rfl,hkt,hd,hf⟩,by simpa [Nat.blt_eq] using hlt,hbp,hcp,hn,h⟩
           ·exact absurd h.symm hb
          ·exact absurd h.symm hb
         ·exact absurd h.symm hb
        ·exact absurd h.symm hb
       ·exact absurd h.symm hb
      ·exact absurd h.symm hb
     ·exact absurd h.symm hb
    ·exact absurd h.symm hb
   ·exact absurd h.symm hb
  ·exact absurd h.symm hb
 ·exact absurd h.symm hb
def iW(P:Program)(e:FuncId→Option Fun)(o:Oper)(c:Cls)(vs:List V)(base cur:Hp)(past:List Hp)(q:Pos)(k:V→Hp→Hp→List Hp→Pos→Out):Out:=match c with
 | .pure=>(match oP P o.op with|true=>bnd (dY P e o.op vs) base (fun v _=>k v base cur past q)|false=>.bad)
 | .read cnt=>(match zT P o.op with|true=>bnd (dY P e o.op vs) base (fun v _=>chk (dY P e o.op vs) v (k v base cur past q) cnt past)|false=>.bad)
 | .alloc=>(match kC P o.op vs with|some (ob,mk)=>k (mk q) base (cur.put q (some ob)) past q.succ|none=>.bad)
 | .heavy=>bnd (dY P e o.op vs) cur (fun v h=>k v h h (base::past) q)
 | .own _=>(match vs with
  | [u]=>(match wO P o.op with|true=>amK u q (bnd (dY P e o.op [u]) cur (fun v _=>k v base cur past q))|false=>.bad)
  |_=>.bad)
 | .ins _=>yJ P o.op vs base cur q fun cur=>k V.undef base cur past q
def mX(c:Cls)(base cur:Hp)(past:List Hp)(q:Pos)(k:Hp→Hp→List Hp→Pos→Out):Out:=match c with
 | .heavy=>k cur cur (base::past) q
 | .alloc=>k base cur past q
 | .pure=>k base cur past q
 | .read _=>k base cur past q
 | .own _=>k base cur past q
 | .ins _=>k base cur past q
def ank(v:V)(b:Bool)(yes no:Out):Out:=match v with
 | .bool c=>(match b,c with|true,true=>yes|false,false=>yes|_,_=>no)
 | .tuple _=>no
 |_=>.bad
def jJ(P:Program)(e:FuncId→Option Fun)(ops:Array Oper)(sb:Nat→Nat→Bool)(fr:F)(k:Env→Hp→Out):Plan→Env→Hp→Hp→List Hp→Pos→Out
 | [],env,_,cur,_,_=>k env cur
 |(i,c)::l,env,base,cur,past,q=>(match ops[i]? with
  |none=>.bad
  |some o=>(match o.guard with
   |none=>jU ops sb fr i env o.op.operands.toList fun vs=>iW P e o c vs base cur past q fun v base cur past q=>jq o.dst v env fun env=>jJ P e ops sb fr k l env base cur past q
   |some (g,b)=>(match (ops[g]?).bind (·.dst) with
    |none=>.bad
    |some d=>(match aZ d env with
     |none=>.bad
     |some v=>ank v b
      (jU ops sb fr i env o.op.operands.toList fun vs=>iW P e o c vs base cur past q fun v base cur past q=>jq o.dst v env fun env=>jJ P e ops sb fr k l env base cur past q)
      (mX c base cur past q fun base cur past q=>jq o.dst V.undef env fun env=>jJ P e ops sb fr k l env base cur past q)))))
def Src(ops:Array Oper)(sb:Nat→Nat→Bool)(fr:F)(E:Env)(i:Nat)(x:Operand)(v:V):Prop:=match x with
 | .tmp t=>(lM ops sb i t=true∧aZ t E=some v)∨(lM ops sb i t=false∧fr.get (Pos.of t)=some v)
 | .const c=>const c=some v
 | .global g=>v=.ptr (Pos.of g) 0
 | .func f=>v=.func (.func f) .nil .nil
def pF(ops:Array Oper)(sb:Nat→Nat→Bool)(fr:F)(E:Env)(i:Nat):List Operand→List V→Prop
 | [],vs=>vs= []
 |x::l,vs=>∃v us,vs=v::us∧Src ops sb fr E i x v∧pF ops sb fr E i l us
def Wanted(ops:Array Oper)(E:Env)(i:Nat):Prop:=∃o,ops[i]?=some o∧(o.guard=none∨∃g b d,o.guard=some (g,b)∧(ops[g]?).bind (·.dst)=some d∧aZ d E=some (.bool b))
structure Tr where
 E:Env
 Bs:Nat→Hp
 Cs:Nat→Hp
 A:List (Nat×Nat×Pos×Ob)
 I:List (Nat×Nat×Pos×V×V)
def ent(I:List (Nat×Nat×Pos×V×V))(b:Nat→Bool)(j:Nat)(p:Pos):List (V×V):=
 I.filterMap fun y=>if y.2.1=j∧y.2.2.1=p∧b y.1=true then some y.2.2.2 else none
def mP(es:List (V×V)):Ob→Ob
 | .map l=>.map (l++es)
 |o=>o
theorem mO(o:Ob):mP [] o=o:=by cases o<;>simp [mP]
theorem qW{I:List (Nat×Nat×Pos×V×V)}{b:Nat→Bool}{j:Nat}{p:Pos}(h:∀y∈I,y.2.1=j→y.2.2.1=p→b y.1=false):ent I b j p= []:=by
 unfold ent
 rw [List.filterMap_eq_nil_iff]
 intro y hy
 rw [if_neg]
 rintro⟨h1,h2,h3⟩
 rw [h y hy h1 h2] at h3;cases h3
theorem lD{I:List (Nat×Nat×Pos×V×V)}{b b':Nat→Bool}{j:Nat}{p:Pos}(h:∀y∈I,y.2.1=j→y.2.2.1=p→b y.1=b' y.1):ent I b j p=ent I b' j p:=by
 induction I with
 |nil=>rfl
 |cons y I ih=>
  have ih:=ih fun z hz=>h z (by simp [hz])
  have hy:=h y (by simp)
  unfold ent at ih⊢
  rw [List.filterMap_cons,List.filterMap_cons,ih]
  by_cases h1:y.2.1=j
  ·by_cases h2:y.2.2.1=p
   ·rw [hy h1 h2]
   ·simp [h2]
  ·simp [h1]
theorem mJ(y:Nat×Nat×Pos×V×V)(I:List (Nat×Nat×Pos×V×V))(b:Nat→Bool)(j:Nat)(p:Pos):ent (y::I) b j p=(if y.2.1=j∧y.2.2.1=p∧b y.1=true then [y.2.2.2] else [])++ent I b j p:=by
 unfold ent
 rw [List.filterMap_cons]
 by_cases h:y.2.1=j∧y.2.2.1=p∧b y.1=true
 ·rw [if_pos h,if_pos h];rfl
 ·rw [if_neg h,if_neg h];rfl
theorem ayl(I:List (Nat×Nat×Pos×V×V))(b:Nat→Bool)(j:Nat)(p:Pos):List.Sublist (ent I b j p) (ent I (fun _=>true) j p):=by
 induction I with
 |nil=>exact List.Sublist.refl _
 |cons y I ih=>
  rw [mJ,mJ]
  refine List.Sublist.append ?_ ih
  by_cases h:y.2.1=j∧y.2.2.1=p∧b y.1=true
  ·rw [if_pos h,if_pos ⟨h.1,h.2.1,rfl⟩]
   exact List.Sublist.refl _
  ·rw [if_neg h]
   exact List.nil_sublist _
theorem Ei{y:Nat×Nat×Pos×V×V}{b b':Nat→Bool}:∀{I:List (Nat×Nat×Pos×V×V)},(I.map (·.1)).Nodup→y∈I→b y.1=false→b' y.1=true→(∀k,k≠y.1→b' k=b k)→
  List.Perm (ent I b' y.2.1 y.2.2.1) (ent I b y.2.1 y.2.2.1++ [y.2.2.2])
 | [],_,hy,_,_,_=>by cases hy
 |z::I,hn,hy,h0,h1,hk=>by
  have hn':=List.nodup_cons.1 (by simpa using hn:(z.1::I.map (·.1)).Nodup)
  rw [mJ,mJ]
  rcases List.mem_cons.1 hy with rfl|hy
  ·rw [if_pos ⟨rfl,rfl,h1⟩,if_neg (fun h=>by rw [h0] at h;cases h.2.2)]
   rw [lD (b:=b') (b':=b) (fun w hw _ _=>hk _ fun e=>hn'.1 (by rw [←e];exact List.mem_map_of_mem hw))]
   exact(List.perm_append_singleton _ _).symm
  ·have hz:z.1≠y.1:=fun e=>hn'.1 (by rw [e];exact List.mem_map_of_mem hy)
   rw [hk _ hz,List.append_assoc]
   exact(Ei hn'.2 hy h0 h1 hk).append_left _
def aNQ(P:Program)(e:FuncId→Option Fun)(T:Tr)(i:Nat)(o:Oper)(j:Nat)(c:Cls)(vs:List V)(v:V):Prop:=match c with
 | .pure=>oP P o.op=true∧∃h h',dY P e o.op vs h=.ok v h'
 | .read cnt=>zT P o.op=true∧∀j',j'≤j→j≤j'+cnt→∃h',dY P e o.op vs (T.Bs j')=.ok v h'
 | .alloc=>∃ob mk p,kC P o.op vs=some (ob,mk)∧v=mk p∧(i,j,p,ob)∈T.A
 | .heavy=>dY P e o.op vs (T.Cs j)=.ok v (T.Bs (j+1))
 | .own _=>∃u p h',vs= [u]∧wO P o.op=true∧yx u=some p∧dY P e o.op [u] (T.Cs j)=.ok v h'
 | .ins _=>∃p x y,vs= [.map p,x,y]∧avI P o.op x∧v=V.undef∧(i,j,p,x,y)∈T.I
def fF(P:Program)(e:FuncId→Option Fun)(ops:Array Oper)(sb:Nat→Nat→Bool)(fr:F)(T:Tr)(i:Nat)(c:Cls)(j:Nat):Prop:=
 ∃o,ops[i]?=some o∧
  (((o.guard=none∨∃g b d,o.guard=some (g,b)∧(ops[g]?).bind (·.dst)=some d∧aZ d T.E=some (.bool b))∧
   ∃vs v,pF ops sb fr T.E i o.op.operands.toList vs∧(∀d,o.dst=some d→aZ d T.E=some v)∧aNQ P e T i o j c vs v)∨
  ((∃g b d,o.guard=some (g,b)∧(ops[g]?).bind (·.dst)=some d∧(aZ d T.E=some (.bool (!b))∨∃l,aZ d T.E=some (.tuple l)))∧
   (∀d,o.dst=some d→aZ d T.E=some V.undef)∧(c=.heavy→T.Bs (j+1)=T.Cs j)))
def phased:Nat→Plan→List (Nat×Cls×Nat)
 |_,[]=> []
 |j,(i,c)::l=>(i,c,j)::phased (match c with| .heavy=>j+1|_=>j) l
def aU:Plan→Nat
 | []=>0
 |(_,c)::l=>(match c with| .heavy=>aU l+1|_=>aU l)
def fA:Plan→Nat
 | []=>0
 |(_,c)::l=>(match c with| .alloc=>fA l+1|_=>fA l)
theorem FI{i:Nat}{c:Cls}{j:Nat}:∀{j₀:Nat} {l:Plan},(i,c,j)∈phased j₀ l→j₀≤j
 |j₀,(i',c')::l,h=>by
  rcases List.mem_cons.1 h with h|h
  ·cases h;exact Nat.le_refl _
  ·have:=FI h
   cases c'<;>simp only [] at this<;>omega
theorem pF.mono{E E':Env}(hE:∀t v,aZ t E=some v→aZ t E'=some v){i:Nat}:∀{l:List Operand} {vs:List V},pF ops sb fr E i l vs→pF ops sb fr E' i l vs
 | [],_,h=>h
 |x::l,_,⟨v,us,e,h1,h2⟩=>⟨v,us,e,by
   cases x with
   |tmp t=>exact h1.imp (fun h=>⟨h.1,hE _ _ h.2⟩) id
   |const c=>exact h1
   |global g=>exact h1
   |func f=>exact h1,pF.mono hE h2⟩
theorem Jk{i:Nat}{env:Env}{out:Out}(hb:out≠ .bad):∀{l:List Operand} {k:List V→Out},jU ops sb fr i env l k=out→∃vs,k vs=out∧pF ops sb fr env i l vs
 | [],k,h=>⟨[],h,rfl⟩
 |x::l,k,h=>by
  unfold jU at h
  have:∃v,jU ops sb fr i env l (fun vs=>k (v::vs))=out∧Src ops sb fr env i x v:=by
   cases x with
   |tmp t=>
    simp only [yD] at h
    split at h
    ·rename_i hs
     split at h
     ·rename_i v hv;exact⟨v,h,.inl ⟨hs,hv⟩⟩
     ·exact absurd h.symm hb
    ·rename_i hs
     unfold gt at h
     split at h
     ·rename_i v hv;exact⟨v,h,.inr ⟨hs,hv⟩⟩
     ·exact absurd h.symm hb
   |const c=>
    simp only [yD] at h
    split at h
    ·rename_i v hv;exact⟨v,h,hv⟩
    ·exact absurd h.symm hb
   |global g=>exact⟨_,h,rfl⟩
   |func f=>exact⟨_,h,rfl⟩
  obtain⟨v,h1,h2⟩:=this
  obtain⟨vs,h3,h4⟩:=Jk hb h1
  exact⟨v::vs,h3,v,vs,rfl,h2,h4⟩
theorem lF{d:Option Nat}{v:V}{env:Env}{k:Env→Out}{out:Out}(hb:out≠ .bad)(h:jq d v env k=out):
  ∃env',k env'=out∧(∀t u,aZ t env=some u→aZ t env'=some u)∧∀x,d=some x→aZ x env'=some v:=by
 unfold jq at h
 split at h
 ·exact⟨env,h,fun _ _ h=>h,fun x hx=>by cases hx⟩
 ·rename_i d
  split at h
  ·rename_i hn
   refine⟨_,h,fun t u ht=>?_,fun x hx=>?_⟩
   ·rw [eX]
    split
    ·rename_i e;subst e;rw [hn] at ht;cases ht
    ·exact ht
   ·cases hx;rw [eX,if_pos rfl]
  ·exact absurd h.symm hb
theorem aj0{m:Hp→R V}{v:V}{k out:Out}(hb:out≠ .bad):∀{n:Nat} {l:List Hp},chk m v k n l=out→k=out∧∀r g,r<n→l[r]?=some g→∃h',m g=.ok v h'
 |0,_,h=>⟨by cases‹List Hp›<;>exact h,fun r g hr=>by omega⟩
 |n+1,[],h=>⟨h,fun r g _ hg=>by cases hg⟩
 |n+1,g::l,h=>by
  unfold chk at h
  split at h
  ·rename_i v' h' hm
   split at h
   ·rename_i hv
    obtain⟨h1,h2⟩:=aj0 hb h
    refine⟨h1,fun r g' hr hg=>?_⟩
    cases r with
    |zero=>cases hg;rw [je hv];exact⟨_,hm⟩
    |succ r=>exact h2 r g' (by omega) hg
   ·exact absurd h.symm hb
  ·exact absurd h.symm hb
structure Told (P:Program) (e:FuncId→Option Fun) (ops:Array Oper) (sb:Nat→Nat→Bool) (fr:F) (k:Env→Hp→Out) (l:Plan) (env:Env) (base cur:Hp) (past pc:List Hp) (q:Pos) (out:Out) (T:Tr):Prop where
 tEnv:∀t v,aZ t env=some v→aZ t T.E=some v
 tBase:T.Bs past.length=base
 tPast:∀r g,past[r]?=some g→T.Bs (past.length - 1 - r)=g
 tPc:∀r g,pc[r]?=some g→T.Cs (past.length - 1 - r)=g
 steps:∀i c j,(i,c,j)∈phased past.length l→fF P e ops sb fr T i c j
 a1:∀i j p ob,(i,j,p,ob)∈T.A→q.nat≤p.nat∧p.nat<q.nat+fA l∧(i,.alloc,j)∈phased past.length l∧(T.Cs j).get p=some (mP (ent T.I (fun _=>true) j p) ob)∧Wanted ops T.E i
 a2:∀a a',a∈T.A→a'∈T.A→a.2.2.1=a'.2.2.1→a=a'
 a3:∀a a',a∈T.A→a'∈T.A→a.1=a'.1→a=a'
 cs:∀x,(∀i ob,(i,past.length,x,ob)∉T.A)→(T.Cs past.length).get x=(cur.get x).map (mP (ent T.I (fun _=>true) past.length x))
 i1:∀i j p x y,(i,j,p,x,y)∈T.I→((j=past.length∧base.get p=none∧∃es,cur.get p=some (.map es))∨∃a ob,(a,j,p,ob)∈T.A)∧(∃a,(i,.ins a,j)∈phased past.length l)∧Wanted ops T.E i
 i2:(T.I.map (·.1)).Nodup
 i3:∀x es,(∀i ob,(i,past.length,x,ob)∉T.A)→cur.get x=some (.map es)→dN es→dN (es++ent T.I (fun _=>true) past.length x)
 i4:∀i j p es,(i,j,p,.map es)∈T.A→dN es→dN (es++ent T.I (fun _=>true) j p)
 cn:(T.Cs past.length).next=cur.next
 ct:∀j,past.length<j→(∀x,(∀i ob,(i,j,x,ob)∉T.A)→(T.Cs j).get x=(T.Bs j).get x)∧(T.Cs j).next=(T.Bs j).next
 out:k T.E (T.Cs (past.length+aU l))=out
variable{k:Env→Hp→Out}{l:Plan}{env env':Env}{base cur:Hp}{past pc:List Hp}{q:Pos}{out:Out}{T:Tr}{i:Nat}{c:Cls}
theorem Told.stay(t:Told P e ops sb fr k l env' base cur past pc q out T)(hE:∀t v,aZ t env=some v→aZ t env'=some v)(hc:c≠ .heavy)
  (h1:fF P e ops sb fr T i c past.length):Told P e ops sb fr k ((i,c)::l) env base cur past pc q out T:=by
 have hp:phased past.length ((i,c)::l)=(i,c,past.length)::phased past.length l:=by cases c<;>first|rfl|exact absurd rfl hc
 have hh:aU ((i,c)::l)=aU l:=by cases c<;>first|rfl|exact absurd rfl hc
 have ha:fA l≤fA ((i,c)::l):=by cases c<;>simp [fA]
 refine⟨fun x v h=>t.tEnv x v (hE x v h),t.tBase,t.tPast,t.tPc,fun i' c' j' h=>?_,fun i' j p ob h=>?_,t.a2,t.a3,t.cs,fun i' j p x y h=>?_,t.i2,t.i3,t.i4,t.cn,t.ct,by rw [hh];exact t.out⟩
 ·rw [hp] at h
  rcases List.mem_cons.1 h with h|h
  ·cases h;exact h1
  ·exact t.steps i' c' j' h
 ·obtain⟨g1,g2,g3,g4⟩:=t.a1 i' j p ob h
  exact⟨g1,by omega,by rw [hp];exact List.mem_cons_of_mem _ g3,g4⟩
 ·obtain⟨g1,⟨a,g2⟩,g3⟩:=t.i1 _ _ _ _ _ h
  exact⟨g1,⟨a,by rw [hp];exact List.mem_cons_of_mem _ g2⟩,g3⟩
theorem fF.more{x:Nat×Nat×Pos×Ob}{i:Nat}{c:Cls}{j:Nat}(h:fF P e ops sb fr T i c j):fF P e ops sb fr {T with A:=x::T.A} i c j:=by
 obtain⟨o,ho,h⟩:=h
 refine⟨o,ho,h.imp (fun⟨h1,vs,v,h2,h3,h4⟩=>⟨h1,vs,v,h2,h3,?_⟩) id⟩
 cases c with
 |pure=>exact h4
 |read cnt=>exact h4
 |heavy=>exact h4
 |own a=>exact h4
 |ins a=>exact h4
 |alloc=>
  obtain⟨ob,mk,p,a,b,d⟩:=h4
  exact⟨ob,mk,p,a,b,List.mem_cons_of_mem _ d⟩
theorem fF.aIs{x:Nat×Nat×Pos×V×V}{i:Nat}{c:Cls}{j:Nat}(h:fF P e ops sb fr T i c j):fF P e ops sb fr {T with I:=x::T.I} i c j:=by
 obtain⟨o,ho,h⟩:=h
 refine⟨o,ho,h.imp (fun⟨h1,vs,v,h2,h3,h4⟩=>⟨h1,vs,v,h2,h3,?_⟩) id⟩
 cases c with
 |pure=>exact h4
 |read cnt=>exact h4
 |heavy=>exact h4
 |own a=>exact h4
 |alloc=>exact h4
 |ins a=>
  obtain⟨p,x,y,a,b,d,e⟩:=h4
  exact⟨p,x,y,a,b,d,List.mem_cons_of_mem _ e⟩
theorem Told.alloc{ob:Ob}(hi:∀c j,(i,c,j)∉phased past.length l)(t:Told P e ops sb fr k l env' base (cur.put q (some ob)) past pc q.succ out T)(hE:∀t v,aZ t env=some v→aZ t env'=some v)
  (h1:fF P e ops sb fr {T with A:=(i,past.length,q,ob)::T.A} i .alloc past.length) (hw:Wanted ops T.E i):
  Told P e ops sb fr k ((i,.alloc)::l) env base cur past pc q out {T with A:=(i,past.length,q,ob)::T.A}:=by
 have hq:q.succ.nat=q.nat+1:=Pos.dS q
 have hno:∀i' j ob',(i',j,q,ob')∉T.A:=fun i' j ob' h=>by
  have:=(t.a1 _ _ _ _ h).1
  omega
 refine⟨fun x v h=>t.tEnv x v (hE x v h),t.tBase,t.tPast,t.tPc,fun i' c' j' h=>?_,fun i' j p ob' h=>?_,fun a a' ha ha' hp=>?_,fun a a' ha ha' hp=>?_,fun x hx=>?_,fun i' j p x y h=>?_,t.i2,fun x es hx hc hk=>?_,fun i' j p es h hk=>?_,t.cn,fun j hj=>⟨fun x hx=>?_,(t.ct j hj).2⟩,t.out⟩
 ·rcases List.mem_cons.1 h with h|h
  ·cases h;exact h1
  ·exact(t.steps i' c' j' h).more
 ·have hal:fA ((i,.alloc)::l)=fA l+1:=rfl
  rcases List.mem_cons.1 h with h|h
  ·cases h
   obtain⟨o,ho,hst⟩:=h1
   refine⟨Nat.le_refl _,by omega,List.mem_cons_self ..,?_,hw⟩
   show(T.Cs past.length).get q=some _
   rw [t.cs q (fun i' ob'=>hno i' _ ob'),Hp.bC];rfl
  ·obtain⟨g1,g2,g3,g4⟩:=t.a1 i' j p ob' h
   exact⟨by omega,by omega,List.mem_cons_of_mem _ g3,g4⟩
 ·rcases List.mem_cons.1 ha with h1|h1<;>rcases List.mem_cons.1 ha' with h2|h2
  ·rw [h1,h2]
  ·rw [h1] at hp
   exact absurd (show(a'.1,a'.2.1,q,a'.2.2.2)∈T.A by rw [show q=a'.2.2.1 from hp];exact h2) (hno _ _ _)
  ·rw [h2] at hp
   exact absurd (show(a.1,a.2.1,q,a.2.2.2)∈T.A by rw [show q=a.2.2.1 from hp.symm];exact h1) (hno _ _ _)
  ·exact t.a2 a a' h1 h2 hp
 ·rcases List.mem_cons.1 ha with h1|h1<;>rcases List.mem_cons.1 ha' with h2|h2
  ·rw [h1,h2]
  ·rw [h1] at hp
   have:=(t.a1 _ _ _ _ h2).2.2.1
   rw [←show i=a'.1 from hp] at this
   exact absurd this (hi _ _)
  ·rw [h2] at hp
   have:=(t.a1 _ _ _ _ h1).2.2.1
   rw [show a.1=i from hp] at this
   exact absurd this (hi _ _)
  ·exact t.a3 a a' h1 h2 hp
 ·have hne:x≠q:=fun e=>by subst e;exact hx i ob (by simp)
  show(T.Cs past.length).get x=_
  rw [t.cs x (fun i' ob' h=>hx i' ob' (List.mem_cons_of_mem _ h)),Hp.aY _ hne]
 ·obtain⟨g1,⟨a,g2⟩,g3⟩:=t.i1 _ _ _ _ _ h
  refine⟨?_,⟨a,List.mem_cons_of_mem _ g2⟩,g3⟩
  rcases g1 with⟨e1,e2,es,e3⟩|⟨a,ob',e1⟩
  ·by_cases hpq:p=q
   ·subst hpq
    exact .inr ⟨i,ob,by rw [e1];simp⟩
   ·rw [Hp.aY _ hpq] at e3
    exact .inl ⟨e1,e2,es,e3⟩
  ·exact .inr ⟨a,ob',List.mem_cons_of_mem _ e1⟩
 ·have hne:x≠q:=fun e=>by subst e;exact hx i ob (by simp)
  exact t.i3 x es (fun i' ob' h=>hx i' ob' (List.mem_cons_of_mem _ h)) (by rw [Hp.aY _ hne];exact hc) hk
 ·rcases List.mem_cons.1 h with h|h
  ·cases h
   exact t.i3 _ es (fun i' ob'=>hno i' _ ob') (Hp.bC _ _ _) hk
  ·exact t.i4 i' j p es h hk
 ·exact(t.ct j hj).1 x (fun i' ob' h=>hx i' ob' (List.mem_cons_of_mem _ h))
theorem Told.ins{a:Nat}{p:Pos}{x y:V}{es:List (V×V)}(hi:∀c j,(i,c,j)∉phased past.length l)(hlt:p.nat<q.nat)(hbp:base.get p=none)(hcp:cur.get p=some (.map es))(hnew:Eb x es=true)
  (t:Told P e ops sb fr k l env' base (cur.put p (some (.map (es++ [(x,y)])))) past pc q out T) (hE:∀t v,aZ t env=some v→aZ t env'=some v)
  (h1:fF P e ops sb fr {T with I:=(i,past.length,p,x,y)::T.I} i (.ins a) past.length) (hw:Wanted ops T.E i):
  Told P e ops sb fr k ((i,.ins a)::l) env base cur past pc q out {T with I:=(i,past.length,p,x,y)::T.I}:=by
 have hno:∀i' j ob',(i',j,p,ob')∉T.A:=fun i' j ob' h=>by
  have:=(t.a1 _ _ _ _ h).1
  omega
 have hent:∀j z,(j≠past.length∨z≠p)→ent ((i,past.length,p,x,y)::T.I) (fun _=>true) j z=ent T.I (fun _=>true) j z:=fun j z hz=>by
  rw [mJ,if_neg (fun h=>by rcases hz with hz|hz;exact hz h.1.symm;exact hz h.2.1.symm)];rfl
 have hentp:ent ((i,past.length,p,x,y)::T.I) (fun _=>true) past.length p=(x,y)::ent T.I (fun _=>true) past.length p:=by
  rw [mJ,if_pos ⟨rfl,rfl,rfl⟩];rfl
 refine⟨fun z v h=>t.tEnv z v (hE z v h),t.tBase,t.tPast,t.tPc,fun i' c' j' h=>?_,fun i' j p' ob' h=>?_,t.a2,t.a3,fun z hz=>?_,fun i' j p' x' y' h=>?_,?_,fun z fs hz hc hk=>?_,fun i' j p' fs h hk=>?_,t.cn,t.ct,t.out⟩
 ·rcases List.mem_cons.1 h with h|h
  ·cases h;exact h1
  ·exact(t.steps i' c' j' h).aIs
 ·obtain⟨g1,g2,g3,g4,g5⟩:=t.a1 i' j p' ob' h
  refine⟨g1,g2,List.mem_cons_of_mem _ g3,?_,g5⟩
  show(T.Cs j).get p'=some (mP (ent ((i,past.length,p,x,y)::T.I) (fun _=>true) j p') ob')
  rw [hent j p' (.inr fun e=>by rw [e] at g1;omega)];exact g4
 ·show(T.Cs past.length).get z=(cur.get z).map (mP (ent ((i,past.length,p,x,y)::T.I) (fun _=>true) past.length z))
  rw [t.cs z hz]
  by_cases hzp:z=p
  ·subst hzp
   rw [hentp,Hp.bC,hcp]
   simp [mP]
  ·rw [hent _ z (.inr hzp),Hp.aY _ hzp]
 ·rcases List.mem_cons.1 h with h|h
  ·cases h
   exact⟨.inl ⟨rfl,hbp,es,hcp⟩,⟨a,List.mem_cons_self ..⟩,hw⟩
  ·obtain⟨g1,⟨a',g2⟩,g3⟩:=t.i1 _ _ _ _ _ h
   refine⟨?_,⟨a',List.mem_cons_of_mem _ g2⟩,g3⟩
   rcases g1 with⟨e1,e2,fs,e3⟩|g1
   ·by_cases hpp:p'=p
    ·subst hpp;exact .inl ⟨e1,e2,es,hcp⟩
    ·rw [Hp.aY _ hpp] at e3;exact .inl ⟨e1,e2,fs,e3⟩
   ·exact .inr g1
 ·show(List.map (·.1) ((i,past.length,p,x,y)::T.I)).Nodup
  rw [List.map_cons,List.nodup_cons]
  refine⟨fun hm=>?_,t.i2⟩
  obtain⟨⟨i',j',p',x',y'⟩,hm,he⟩:=List.mem_map.1 hm
  obtain⟨_,⟨a',g2⟩,_⟩:=t.i1 _ _ _ _ _ hm
  have he:i'=i:=he
  subst he
  exact hi _ _ g2
 ·show dN (fs++ent ((i,past.length,p,x,y)::T.I) (fun _=>true) past.length z)
  by_cases hzp:z=p
  ·subst hzp
   rw [hcp] at hc;cases hc
   rw [hentp]
   have:=t.i3 z (es++ [(x,y)]) hz (Hp.bC _ _ _) (hk.snoc (UX hnew))
   rw [List.append_assoc] at this
   exact this
  ·rw [hent _ z (.inr hzp)]
   exact t.i3 z fs hz (by rw [Hp.aY _ hzp];exact hc) hk
 ·show dN (fs++ent ((i,past.length,p,x,y)::T.I) (fun _=>true) j p')
  rw [hent j p' (.inr fun e=>by subst e;exact hno _ _ _ h)]
  exact t.i4 i' j p' fs h hk
theorem Told.heavy{h:Hp}(t:Told P e ops sb fr k l env' h h (base::past) (cur::pc) q out T)(hl:pc.length=past.length)(hE:∀t v,aZ t env=some v→aZ t env'=some v)
  (h1:fF P e ops sb fr T i .heavy past.length):Told P e ops sb fr k ((i,.heavy)::l) env base cur past pc q out T:=by
 have hC:T.Cs past.length=cur:=by have:=t.tPc 0 cur rfl;simpa using this
 have hno:∀x,ent T.I (fun _=>true) past.length x= []:=fun x=>qW fun y hy hj _=>by
  obtain⟨i',j',p',x',y'⟩:=y
  obtain⟨_,⟨a,g⟩,_⟩:=t.i1 _ _ _ _ _ hy
  have:=FI g
  have hj:j'=past.length:=hj
  simp at this
  omega
 refine⟨fun x v h=>t.tEnv x v (hE x v h),?_,fun r g hr=>?_,fun r g hr=>?_,fun i' c' j' h=>?_,fun i' j p ob' h=>?_,t.a2,t.a3,fun x _=>?_,fun i' j p x y h=>?_,t.i2,fun x es _ _ hk=>?_,t.i4,by rw [hC],fun j hj=>?_,?_⟩
 ·have:=t.tPast 0 base rfl;simpa using this
 ·have:=t.tPast (r+1) g (by simpa using hr)
  rw [←this];congr 1;simp;omega
 ·have:=t.tPc (r+1) g (by simpa using hr)
  rw [←this];congr 1;simp;omega
 ·rcases List.mem_cons.1 h with h|h
  ·cases h;exact h1
  ·exact t.steps i' c' j' h
 ·obtain⟨g1,g2,g3,g4⟩:=t.a1 i' j p ob' h
  exact⟨g1,g2,List.mem_cons_of_mem _ g3,g4⟩
 ·rw [hC,hno]
  cases cur.get x with
  |none=>rfl
  |some o=>simp [mO]
 ·obtain⟨g1,⟨a,g2⟩,g3⟩:=t.i1 _ _ _ _ _ h
  refine⟨?_,⟨a,List.mem_cons_of_mem _ g2⟩,g3⟩
  rcases g1 with⟨_,e2,fs,e3⟩|g1
  ·rw [e2] at e3;cases e3
  ·exact .inr g1
 ·rw [hno,List.append_nil];exact hk
 ·have hl':(base::past).length=past.length+1:=rfl
  by_cases e:j=past.length+1
  ·subst e
   have hB:T.Bs (past.length+1)=h:=t.tBase
   rw [hB]
   refine⟨fun x hx=>?_,t.cn⟩
   have:=t.cs x hx
   rw [show(base::past).length=past.length+1 from rfl] at this
   rw [this,qW fun y hy hj hyp=>?_]
   ·cases h.get x with
    |none=>rfl
    |some o=>simp [mO]
   ·exfalso
    obtain⟨i',j',p',x',y'⟩:=y
    have hj:j'=past.length+1:=hj
    have hyp:p'=x:=hyp
    subst hj;subst hyp
    obtain⟨g1,_,_⟩:=t.i1 _ _ _ _ _ hy
    rcases g1 with⟨_,e2,fs,e3⟩|⟨a,ob,g1⟩
    ·rw [e2] at e3;cases e3
    ·exact hx a ob g1
  ·exact t.ct j (by omega)
 ·have:=t.out
  have e:(base::past).length+aU l=past.length+aU ((i,.heavy)::l):=by simp [aU];omega
  rw [e] at this
  exact this
theorem Dy{m:Hp→R V}{h:Hp}{k:V→Hp→Out}{out:Out}(hb:out≠ .bad)(h0:bnd m h k=out):∃v h',m h=.ok v h'∧k v h'=out:=by
 unfold bnd at h0
 split at h0
 ·exact⟨_,_,by assumption,h0⟩
 ·exact absurd h0.symm hb
theorem jG{i:Nat}{c:Cls}{j:Nat}:∀{j₀:Nat} {l:Plan},(i,c,j)∈phased j₀ l→i∈l.map (·.1)
 |j₀,(i',c')::l,h=>by
  rcases List.mem_cons.1 h with h|h
  ·cases h;simp
  ·have:=jG h;simp at this⊢;exact .inr this
theorem jh(hb:out≠ .bad):∀(l:Plan) (env:Env) (base cur:Hp) (past pc:List Hp) (q:Pos),(l.map (·.1)).Nodup→pc.length=past.length→jJ P e ops sb fr k l env base cur past q=out→
  ∃T,Told P e ops sb fr k l env base cur past pc q out T
 | [],env,base,cur,past,pc,q,_,hl,h=>by
  let T:Tr:=⟨env,fun j=>if j<past.length then past.getD (past.length - 1 - j) base else base,
   fun j=>if j<past.length then pc.getD (past.length - 1 - j) base else if j=past.length then cur else base,[],[]⟩
  have hC:T.Cs past.length=cur:=by simp [T]
  refine⟨T,?_⟩
  constructor
  ·exact fun _ _ h=>h
  ·simp [T]
  ·intro r g hr
   have hlt:r<past.length:=by
    rcases Nat.lt_or_ge r past.length with h1|h1
    ·exact h1
    ·rw [List.getElem?_eq_none h1] at hr;cases hr
   have e1:past.length - 1 - r<past.length:=by omega
   have e2:past.length - 1 - (past.length - 1 - r)=r:=by omega
   simp only [T,e1,if_true,e2]
   rw [List.getD_eq_getElem?_getD,hr];rfl
  ·intro r g hr
   have hlt:r<pc.length:=by
    rcases Nat.lt_or_ge r pc.length with h1|h1
    ·exact h1
    ·rw [List.getElem?_eq_none h1] at hr;cases hr
   have e1:past.length - 1 - r<past.length:=by omega
   have e2:past.length - 1 - (past.length - 1 - r)=r:=by omega
   simp only [T,e1,if_true,e2]
   rw [List.getD_eq_getElem?_getD,hr];rfl
  ·intro i c j h;cases h
  ·intro i j p ob h;cases h
  ·intro a a' h;cases h
  ·intro a a' h;cases h
  ·intro x _
   rw [hC]
   show _=(cur.get x).map (mP [])
   cases cur.get x with
   |none=>rfl
   |some o=>simp [mO]
  ·intro i j p x y h;cases h
  ·exact List.nodup_nil
  ·intro x es _ _ hk
   show dN (es++ [])
   rw [List.append_nil];exact hk
  ·intro i j p es h;cases h
  ·rw [hC]
  ·intro j hj
   have e1:¬j<past.length:=by omega
   have e2:¬j=past.length:=by omega
   simp [T,e1,e2]
  ·show k env (T.Cs (past.length+0))=out
   rw [Nat.add_zero,hC];exact h
 |(i,c)::l,env,base,cur,past,pc,q,hnd,hl,h=>by
  have hnd':(l.map (·.1)).Nodup:=(List.nodup_cons.1 (by simpa using hnd)).2
  have hni:i∉l.map (·.1):=(List.nodup_cons.1 (by simpa using hnd)).1
  unfold jJ at h
  split at h
  ·exact absurd h.symm hb
  rename_i o ho
  have run:∀(hg:∀T:Tr,(∀t v,aZ t env=some v→aZ t T.E=some v)→o.guard=none∨∃g b d,o.guard=some (g,b)∧(ops[g]?).bind (·.dst)=some d∧aZ d T.E=some (.bool b)),
    (jU ops sb fr i env o.op.operands.toList fun vs=>iW P e o c vs base cur past q fun v base cur past q=>jq o.dst v env fun env=>jJ P e ops sb fr k l env base cur past q)=out→
    ∃T,Told P e ops sb fr k ((i,c)::l) env base cur past pc q out T:=by
   intro hg h
   obtain⟨vs,h,hsrc⟩:=Jk hb h
   cases c with
   |pure=>
    simp only [iW] at h
    split at h
    ·rename_i hp
     obtain⟨v,h',hop,h⟩:=Dy hb h
     obtain⟨env',h,hE,hd⟩:=lF hb h
     obtain⟨T,t⟩:=jh hb l env' base cur past pc q hnd' hl h
     exact⟨T,t.stay hE (by simp) ⟨o,ho,.inl ⟨hg T fun x u hx=>t.tEnv x u (hE x u hx),vs,v,hsrc.mono (fun x u hx=>t.tEnv x u (hE x u hx)),fun d hd'=>t.tEnv d v (hd d hd'),hp,_,_,hop⟩⟩⟩
    ·exact absurd h.symm hb
   |read cnt=>
    simp only [iW] at h
    split at h
    ·rename_i hp
     obtain⟨v,h',hop,h⟩:=Dy hb h
     obtain⟨h,hck⟩:=aj0 hb h
     obtain⟨env',h,hE,hd⟩:=lF hb h
     obtain⟨T,t⟩:=jh hb l env' base cur past pc q hnd' hl h
     refine⟨T,t.stay hE (by simp) ⟨o,ho,.inl ⟨hg T fun x u hx=>t.tEnv x u (hE x u hx),vs,v,hsrc.mono (fun x u hx=>t.tEnv x u (hE x u hx)),fun d hd'=>t.tEnv d v (hd d hd'),hp,fun j' hj1 hj2=>?_⟩⟩⟩
     by_cases ej:j'=past.length
     ·subst ej;rw [t.tBase];exact⟨_,hop⟩
     ·have hr:past.length - 1 - j'<past.length:=by omega
      have hg':=List.getElem?_eq_getElem hr
      have:=t.tPast _ _ hg'
      rw [show past.length - 1 - (past.length - 1 - j')=j' by omega] at this
      rw [this]
      exact hck _ _ (by omega) hg'
    ·exact absurd h.symm hb
   |alloc=>
    simp only [iW] at h
    split at h
    ·rename_i ob mk hal
     obtain⟨env',h,hE,hd⟩:=lF hb h
     obtain⟨T,t⟩:=jh hb l env' base (cur.put q (some ob)) past pc q.succ hnd' hl h
     exact⟨_,t.alloc (fun c j hm=>hni (jG hm)) hE ⟨o,ho,.inl ⟨hg _ fun x u hx=>t.tEnv x u (hE x u hx),vs,mk q,hsrc.mono (fun x u hx=>t.tEnv x u (hE x u hx)),fun d hd'=>t.tEnv d _ (hd d hd'),ob,mk,q,hal,rfl,by simp⟩⟩ ⟨o,ho,hg T fun x u hx=>t.tEnv x u (hE x u hx)⟩⟩
    ·exact absurd h.symm hb
   |heavy=>
    simp only [iW] at h
    obtain⟨v,h',hop,h⟩:=Dy hb h
    obtain⟨env',h,hE,hd⟩:=lF hb h
    obtain⟨T,t⟩:=jh hb l env' h' h' (base::past) (cur::pc) q hnd' (by simp [hl]) h
    have hC:T.Cs past.length=cur:=by have:=t.tPc 0 cur rfl;simpa using this
    refine⟨T,t.heavy hl hE ⟨o,ho,.inl ⟨hg T fun x u hx=>t.tEnv x u (hE x u hx),vs,v,hsrc.mono (fun x u hx=>t.tEnv x u (hE x u hx)),fun d hd'=>t.tEnv d v (hd d hd'),?_⟩⟩⟩
    show dY P e o.op vs (T.Cs past.length)=.ok v (T.Bs (past.length+1))
    rw [hC,show T.Bs (past.length+1)=h' from t.tBase]
    exact hop
   |own a=>
    simp only [iW] at h
    rcases vs with _|⟨u,_|⟨_,_⟩⟩
    ·exact absurd h.symm hb
    ·simp only [] at h
     split at h
     ·rename_i hown
      unfold amK at h
      split at h
      ·rename_i p hu
       split at h
       ·rename_i hlt
        have hlt':p.nat<q.nat:=by simpa [Nat.blt_eq] using hlt
        obtain⟨v,h',hop,h⟩:=Dy hb h
        obtain⟨env',h,hE,hd⟩:=lF hb h
        obtain⟨T,t⟩:=jh hb l env' base cur past pc q hnd' hl h
        have hcs:(T.Cs past.length).get p=cur.get p:=by
         have hcs:=t.cs p fun i' ob hA=>by have:=(t.a1 _ _ _ _ hA).1;omega
         obtain⟨cs,hrow⟩:=UL hown hu hop
         rw [hcs]
         cases hcp:cur.get p with
         |none=>rfl
         |some o=>
          rw [hcp] at hrow
          cases o<;>first|rfl|cases hrow
        exact⟨T,t.stay hE (by simp) ⟨o,ho,.inl ⟨hg T fun x u hx=>t.tEnv x u (hE x u hx),[u],v,hsrc.mono (fun x u hx=>t.tEnv x u (hE x u hx)),fun d hd'=>t.tEnv d v (hd d hd'),u,p,_,rfl,hown,hu,Jg hown hu hcs hop⟩⟩⟩
       ·exact absurd h.symm hb
      ·exact absurd h.symm hb
     ·exact absurd h.symm hb
    ·exact absurd h.symm hb
   |ins a=>
    simp only [iW] at h
    obtain⟨p,x,y,es,rfl,hio,hlt,hbp,hcp,hnew,h⟩:=X7 hb h
    obtain⟨env',h,hE,hd⟩:=lF hb h
    obtain⟨T,t⟩:=jh hb l env' base (cur.put p (some (.map (es++ [(x,y)])))) past pc q hnd' hl h
    exact⟨_,t.ins (fun c j hm=>hni (jG hm)) hlt hbp hcp hnew hE ⟨o,ho,.inl ⟨hg _ fun x u hx=>t.tEnv x u (hE x u hx),_,V.undef,hsrc.mono (fun x u hx=>t.tEnv x u (hE x u hx)),fun d hd'=>t.tEnv d _ (hd d hd'),p,x,y,rfl,hio,rfl,by simp⟩⟩ ⟨o,ho,hg T fun x u hx=>t.tEnv x u (hE x u hx)⟩⟩
  split at h
  ·rename_i hgn
   exact run (fun T _=>.inl hgn) h
  ·rename_i g b hgs
   split at h
   ·exact absurd h.symm hb
   ·rename_i d hd
    split at h
    ·exact absurd h.symm hb
    ·rename_i v hv
     have skip:(∀T:Tr,(∀t v,aZ t env=some v→aZ t T.E=some v)→∃g b d,o.guard=some (g,b)∧(ops[g]?).bind (·.dst)=some d∧(aZ d T.E=some (.bool (!b))∨∃l,aZ d T.E=some (.tuple l)))→
       (mX c base cur past q fun base cur past q=>jq o.dst V.undef env fun env=>jJ P e ops sb fr k l env base cur past q)=out→
       ∃T,Told P e ops sb fr k ((i,c)::l) env base cur past pc q out T:=by
      intro hg h
      have light:c≠ .heavy→(jq o.dst V.undef env fun env=>jJ P e ops sb fr k l env base cur past q)=out→∃T,Told P e ops sb fr k ((i,c)::l) env base cur past pc q out T:=by
       intro hc h
       obtain⟨env',h,hE,hdd⟩:=lF hb h
       obtain⟨T,t⟩:=jh hb l env' base cur past pc q hnd' hl h
       exact⟨T,t.stay hE hc ⟨o,ho,.inr ⟨hg T fun x u hx=>t.tEnv x u (hE x u hx),fun d hd'=>t.tEnv d _ (hdd d hd'),fun e=>absurd e hc⟩⟩⟩
      cases c with
      |pure=>exact light (by simp) h
      |read cnt=>exact light (by simp) h
      |alloc=>exact light (by simp) h
      |own a=>exact light (by simp) h
      |ins a=>exact light (by simp) h
      |heavy=>
       simp only [mX] at h
       obtain⟨env',h,hE,hdd⟩:=lF hb h
       obtain⟨T,t⟩:=jh hb l env' cur cur (base::past) (cur::pc) q hnd' (by simp [hl]) h
       have hC:T.Cs past.length=cur:=by have:=t.tPc 0 cur rfl;simpa using this
       exact⟨T,t.heavy hl hE ⟨o,ho,.inr ⟨hg T fun x u hx=>t.tEnv x u (hE x u hx),fun d hd'=>t.tEnv d _ (hdd d hd'),fun _=>by rw [hC];exact t.tBase⟩⟩⟩
     unfold ank at h
     split at h
     ·rename_i c'
      have key:∀T:Tr,(∀t v,aZ t env=some v→aZ t T.E=some v)→aZ d T.E=some (.bool c'):=fun T hT=>hT d _ hv
      split at h
      ·exact run (fun T hT=>.inr ⟨g,_,d,hgs,hd,key T hT⟩) h
      ·exact run (fun T hT=>.inr ⟨g,_,d,hgs,hd,key T hT⟩) h
      ·rename_i hn1 hn2
       have hcb:c'=!b:=by
        cases c'<;>cases b<;>first|rfl|exact absurd rfl (hn1 rfl)|exact absurd rfl (hn2 rfl)
       subst hcb
       exact skip (fun T hT=>⟨g,b,d,hgs,hd,.inl (key T hT)⟩) h
     ·rename_i ll
      exact skip (fun T hT=>⟨g,b,d,hgs,hd,.inr ⟨ll,hT d _ hv⟩⟩) h
     ·exact absurd h.symm hb
end
end Go.Vm
namespace Go.Vm
noncomputable section
variable{P:Program}{e:FuncId→Option Fun}{Ed:Nat→Nat→Prop}{ops:Array Oper}{sb:Nat→Nat→Bool}{fr:F}{keep:Nat→Bool}{G N:Nat}{Df:List Deferred}
def Edge(ops:Array Oper)(j i:Nat):Prop:=∃o e,ops[i]?=some o∧e∈o.after∧Region.binds .any e=true∧e.on=j
inductive Bef (Ed:Nat→Nat→Prop):Nat→Nat→Prop where
 |one {j i:Nat}:Ed j i→Bef Ed j i
 |step {k j i:Nat}:Bef Ed k j→Ed j i→Bef Ed k i
def Down(Ed:Nat→Nat→Prop)(L:Array Bool):Prop:=∀i j,Ed j i→L.getD i false=true→L.getD j false=true
theorem Down.bef{L:Array Bool}(hd:Down Ed L){j i:Nat}(h:Bef Ed j i):L.getD i false=true→L.getD j false=true:=by
 induction h with
 |one h=>exact hd _ _ h
 |step _ h ih=>exact fun hi=>ih (hd _ _ h hi)
structure Ready (ops:Array Oper) (Ed:Nat→Nat→Prop) (L:Array Bool) (i:Nat):Prop where
 lt:i<ops.size
 no:L.getD i false=false
 edge:∀j,Ed j i→L.getD j false=true
theorem sD{L:Array Bool}(hs:L.size=ops.size){i:Nat}(h:i∈Region.ready .any ops L):Ready ops (Edge ops) L i:=by
 simp only [Region.ready,List.mem_filter,List.mem_range,Bool.and_eq_true,Bool.not_eq_true'] at h
 obtain⟨h1,h2,h3⟩:=h
 have hi:i<L.size:=by omega
 refine⟨h1,?_,?_⟩
 ·simp [Array.getD,hi] at h2⊢;exact h2
 ·rintro j ⟨o,e,ho,he,hb,rfl⟩
  rw [ho] at h3
  simp only [Option.map_some,Option.getD_some,Array.all_eq_true'] at h3
  have:=h3 e he
  simpa [hb] using this
theorem IV{L:Array Bool}(hs:L.size=ops.size){i:Nat}(hi:i<ops.size)(hno:L.getD i false=false)(he:∀j,Edge ops j i→L.getD j false=true):i∈Region.ready .any ops L:=by
 simp only [Region.ready,List.mem_filter,List.mem_range,Bool.and_eq_true,Bool.not_eq_true']
 have hi':i<L.size:=by omega
 refine⟨hi,by simp [Array.getD,hi'] at hno⊢;exact hno,?_⟩
 rw [Array.getElem?_eq_getElem hi]
 simp only [Option.map_some,Option.getD_some,Array.all_eq_true']
 intro x hx
 by_cases hb:Region.binds .any x=true
 ·rw [he x.on ⟨_,x,Array.getElem?_eq_getElem hi,hx,hb,rfl⟩];simp
 ·simp [hb]
theorem Ready.bef{L:Array Bool}{i:Nat}(h:Ready ops Ed L i)(hd:Down Ed L){j:Nat}(hj:Bef Ed j i):L.getD j false=true:=by
 cases hj with
 |one he=>exact h.edge _ he
 |step hb he=>exact hd.bef hb (h.edge _ he)
theorem Ready.oz{L:Array Bool}{i:Nat}(h:Ready ops Ed L i)(hd:Down Ed L){j:Nat}(hj:Bef Ed i j):L.getD j false=false:=by
 cases hl:L.getD j false with
 |false=>rfl
 |true=>have:=hd.bef hj hl;rw [h.no] at this;cases this
structure Static (ops:Array Oper) (Ed:Nat→Nat→Prop) (sb:Nat→Nat→Bool) (G N:Nat) (plan:Plan):Prop where
 cover:∀i,i<ops.size→∃c j,(i,c,j)∈phased 0 plan
 nodup:(plan.map (·.1)).Nodup
 heavyAt:∀j,j<aU plan→∃i,(i,.heavy,j)∈phased 0 plan∧i<ops.size
 chain:∀i j i' j',(i,.heavy,j)∈phased 0 plan→(i',.heavy,j')∈phased 0 plan→j<j'→Bef Ed i i'
 same:∀i i' j,(i,.heavy,j)∈phased 0 plan→(i',.heavy,j)∈phased 0 plan→i=i'
 alloc:∀i j i' j',(i,.alloc,j)∈phased 0 plan→(i',.heavy,j')∈phased 0 plan→j≤j'→Bef Ed i i'
 readU:∀i n j i' j',(i,.read n,j)∈phased 0 plan→(i',.heavy,j')∈phased 0 plan→j≤j'→Bef Ed i i'
 readL:∀i n j i' j',(i,.read n,j)∈phased 0 plan→(i',.heavy,j')∈phased 0 plan→j'+n<j→Bef Ed i' i
 ownU:∀i a j i' j',(i,.own a,j)∈phased 0 plan→(i',.heavy,j')∈phased 0 plan→j≤j'→Bef Ed i i'
 ownA:∀i a j,(i,.own a,j)∈phased 0 plan→(a,.alloc,j)∈phased 0 plan∧Bef Ed a i∧∃oa o t,ops[a]?=some oa∧oa.dst=some t∧ops[i]?=some o∧o.op.operands.toList= [.tmp t]∧lM ops sb i t=true
 insU:∀i a j i' j',(i,.ins a,j)∈phased 0 plan→(i',.heavy,j')∈phased 0 plan→j≤j'→Bef Ed i i'
 insA:∀i a j,(i,.ins a,j)∈phased 0 plan→(a,.alloc,j)∈phased 0 plan∧Bef Ed a i∧∃oa o t rest,ops[a]?=some oa∧oa.dst=some t∧ops[i]?=some o∧o.op.operands.toList=.tmp t::rest∧lM ops sb i t=true
 guard:∀i o g b,ops[i]?=some o→o.guard=some (g,b)→Bef Ed g i
 dsts:∀(i i':Nat) (o o':Oper) (t:Nat),ops[i]?=some o→ops[i']?=some o'→o.dst=some t→o'.dst=some t→i=i'
 srcT:∀i t,i<ops.size→lM ops sb i t=true→∃i' o',ops[i']?=some o'∧o'.dst=some t∧Bef Ed i' i
 srcF:∀i o t,ops[i]?=some o→ .tmp t∈o.op.operands.toList→lM ops sb i t=false→∀i' o',ops[i']?=some o'→o'.dst=some t→i=i'∨Bef Ed i i'
 oper:∀o∈ops.toList,iM G N o=true
theorem fC{i:Nat}{c c':Cls}{j j':Nat}:∀{j₀:Nat} {l:Plan},(l.map (·.1)).Nodup→(i,c,j)∈phased j₀ l→(i,c',j')∈phased j₀ l→c=c'∧j=j'
 |j₀,(i',c₀)::l,hn,h,h'=>by
  have hn':=(List.nodup_cons.1 (by simpa using hn:(i'::l.map (·.1)).Nodup))
  rcases List.mem_cons.1 h with h1|h1<;>rcases List.mem_cons.1 h' with h2|h2
  ·cases h1;cases h2;exact⟨rfl,rfl⟩
  ·cases h1;exact absurd (jG (l:=l) h2) hn'.1
  ·cases h2;exact absurd (jG (l:=l) h1) hn'.1
  ·exact fC hn'.2 h1 h2
theorem jc{i:Nat}{c:Cls}{j:Nat}:∀{j₀:Nat} {l:Plan},(i,c,j)∈phased j₀ l→j≤j₀+aU l∧(c=.heavy→j<j₀+aU l)
 |j₀,(i',c₀)::l,h=>by
  rcases List.mem_cons.1 h with h|h
  ·cases h
   cases c<;>simp [aU]
  ·have:=jc h
   cases c₀<;>simp only [aU] at this⊢<;>(refine⟨by omega,fun hc=>?_⟩;have:=this.2 hc;omega)
structure Inv (T:Tr) (ops:Array Oper) (Ed:Nat→Nat→Prop) (plan:Plan) (keep:Nat→Bool) (fr:F) (G N:Nat) (Df:List Deferred) (M₀:Mp) (h₀:Hp) (w₀:World) (L:Array Bool) (M:Mp) (f:Hp) (j:Nat) (a:Act) (w:World):Prop where
 lsize:L.size=ops.size
 down:Down Ed L
 jle:j≤aU plan
 ph:∀i j',(i,.heavy,j')∈phased 0 plan→(L.getD i false=true↔j'<j)
 rel:Rel G M f w
 nx:f.next=(T.Bs j).next
 f1:∀i j' p ob,(i,j',p,ob)∈T.A→L.getD i false=true→j≤j'→f.get p=some (mP (ent T.I (fun i=>L.getD i false) j' p) ob)
 f2:∀x,(∀i j' ob,(i,j',x,ob)∈T.A→L.getD i false=true→¬j≤j')→f.get x=(T.Bs j).get x
 f3:∀i j' p ob,(i,j',p,ob)∈T.A→j≤j'→(T.Bs j).get p=none∧p.nat<(T.Bs j).next.nat
 un:∀i j' p ob,(i,j',p,ob)∈T.A→L.getD i false=false→M p=none
 e1:∀i o d v,L.getD i false=true→ops[i]?=some o→o.dst=some d→aZ d T.E=some v→Rp M v (a.tmps.getD d undef)
 e2:∀t v,(∀i o,L.getD i false=true→ops[i]?=some o→o.dst≠some t)→fr.get (Pos.of t)=some v→keep t=true∧Rp M v (a.tmps.getD t undef)
 size:a.tmps.size=N
 plain:a.defers=Df
 ext:Ext M₀ h₀ w₀ M f w
theorem bP(L:Array Bool){i:Nat}(hi:i<L.size)(k:Nat):(L.setIfInBounds i true).getD k false=if k=i then true else L.getD k false:=by
 rw [Array.getD_eq_getD_getElem?,Array.getD_eq_getD_getElem?]
 by_cases e:k=i
 ·subst e;rw [if_pos rfl,Array.getElem?_setIfInBounds_self_of_lt hi];rfl
 ·rw [if_neg e,Array.getElem?_setIfInBounds_ne (Ne.symm e)]
section step
variable{T:Tr}{plan:Plan}{M₀ M:Mp}{h₀ f:Hp}{w₀ w:World}{L:Array Bool}{j:Nat}{a:Act}{i:Nat}
theorem Inv.asZ(I:Inv T ops Ed plan keep fr G N Df M₀ h₀ w₀ L M f j a w)(S:Static ops Ed sb G N plan)(R:Ready ops Ed L i){j':Nat}(hp:(i,.heavy,j')∈phased 0 plan):j'=j:=by
 have h1:¬j'<j:=fun h=>by have:=(I.ph i j' hp).2 h;rw [R.no] at this;cases this
 rcases Nat.lt_or_ge j j' with h2|h2
 ·have hlt:j<aU plan:=by have:=(jc hp).2 rfl;omega
  obtain⟨i2,hp2,_⟩:=S.heavyAt j hlt
  have:=R.bef I.down (S.chain i2 j i j' hp2 hp h2)
  have:=(I.ph i2 j hp2).1 this
  omega
 ·omega
theorem Inv.as2(I:Inv T ops Ed plan keep fr G N Df M₀ h₀ w₀ L M f j a w)(S:Static ops Ed sb G N plan)(R:Ready ops Ed L i){j':Nat}(hp:(i,.alloc,j')∈phased 0 plan):j≤j':=by
 rcases Nat.lt_or_ge j' j with h|h
 ·have hlt:j'<aU plan:=by have:=I.jle;omega
  obtain⟨i2,hp2,_⟩:=S.heavyAt j' hlt
  have h1:=(I.ph i2 j' hp2).2 h
  have:=R.oz I.down (S.alloc i j' i2 j' hp hp2 (Nat.le_refl _))
  rw [h1] at this;cases this
 ·exact h
theorem Inv.avQ(I:Inv T ops Ed plan keep fr G N Df M₀ h₀ w₀ L M f j a w)(S:Static ops Ed sb G N plan)(R:Ready ops Ed L i){n j':Nat}(hp:(i,.read n,j')∈phased 0 plan):j≤j'∧j'≤j+n:=by
 constructor
 ·rcases Nat.lt_or_ge j' j with h|h
  ·have hlt:j'<aU plan:=by have:=I.jle;omega
   obtain⟨i2,hp2,_⟩:=S.heavyAt j' hlt
   have h1:=(I.ph i2 j' hp2).2 h
   have:=R.oz I.down (S.readU i n j' i2 j' hp hp2 (Nat.le_refl _))
   rw [h1] at this;cases this
  ·exact h
 ·rcases Nat.lt_or_ge (j+n) j' with h|h
  ·have hlt:j<aU plan:=by have:=(jc hp).1;omega
   obtain⟨i2,hp2,_⟩:=S.heavyAt j hlt
   have:=R.bef I.down (S.readL i n j' i2 j hp hp2 h)
   have:=(I.ph i2 j hp2).1 this
   omega
  ·exact h
theorem Inv.aEC(I:Inv T ops Ed plan keep fr G N Df M₀ h₀ w₀ L M f j a w)(S:Static ops Ed sb G N plan)(R:Ready ops Ed L i){x j':Nat}(hp:(i,.own x,j')∈phased 0 plan):j≤j':=by
 rcases Nat.lt_or_ge j' j with h|h
 ·have hlt:j'<aU plan:=by have:=I.jle;omega
  obtain⟨i2,hp2,_⟩:=S.heavyAt j' hlt
  have h1:=(I.ph i2 j' hp2).2 h
  have:=R.oz I.down (S.ownU i x j' i2 j' hp hp2 (Nat.le_refl _))
  rw [h1] at this;cases this
 ·exact h
theorem Inv.ajQ(I:Inv T ops Ed plan keep fr G N Df M₀ h₀ w₀ L M f j a w)(S:Static ops Ed sb G N plan)(R:Ready ops Ed L i){x j':Nat}(hp:(i,.ins x,j')∈phased 0 plan):j≤j':=by
 rcases Nat.lt_or_ge j' j with h|h
 ·have hlt:j'<aU plan:=by have:=I.jle;omega
  obtain⟨i2,hp2,_⟩:=S.heavyAt j' hlt
  have h1:=(I.ph i2 j' hp2).2 h
  have:=R.oz I.down (S.insU i x j' i2 j' hp hp2 (Nat.le_refl _))
  rw [h1] at this;cases this
 ·exact h
theorem Inv.operand(I:Inv T ops Ed plan keep fr G N Df M₀ h₀ w₀ L M f j a w)(S:Static ops Ed sb G N plan)(R:Ready ops Ed L i){o:Oper}(ho:ops[i]?=some o){x:Operand}(hx:x∈o.op.operands.toList){v:V}(hs:Src ops sb fr T.E i x v):Rp M v (a.eval x):=by
 cases x with
 |tmp t=>
  rcases hs with⟨hb,hv⟩|⟨hb,hv⟩
  ·obtain⟨i',o',ho',hd,hbf⟩:=S.srcT i t R.lt hb
   exact I.e1 i' o' t v (R.bef I.down hbf) ho' hd hv
  ·refine(I.e2 t v (fun i' o' hl ho' hd=>?_) hv).2
   rcases S.srcF i o t ho hx hb i' o' ho' hd with rfl|hbf
   ·rw [R.no] at hl;cases hl
   ·have:=R.oz I.down hbf;rw [hl] at this;cases this
 |const c=>exact o8 hs M
 |global g=>
  cases hs
  have hg:g<G:=xY (S.oper o (by have:=Array.mem_of_getElem? ho;simpa using this)) _ hx g rfl
  obtain⟨n,hM⟩:=I.rel.gl g hg
  exact jO hM 0
 |func f=>cases hs;exact⟨rfl,.func _,[],[],rfl,⟨rfl,rfl⟩,rfl,rfl,rfl⟩
theorem Inv.operands(I:Inv T ops Ed plan keep fr G N Df M₀ h₀ w₀ L M f j a w)(S:Static ops Ed sb G N plan)(R:Ready ops Ed L i){o:Oper}(ho:ops[i]?=some o):∀{l:List Operand} {vs:List V},(∀x∈l,x∈o.op.operands.toList)→pF ops sb fr T.E i l vs→aX M vs (l.map a.eval)
 | [],vs,_,h=>by cases h;rfl
 |x::l,_,hl,⟨v,us,e,h1,h2⟩=>by
  subst e
  exact⟨_,_,I.operand S R ho (hl x (by simp)) h1,I.operands S R ho (fun y hy=>hl y (by simp [hy])) h2,rfl⟩
theorem Inv.adP(I:Inv T ops Ed plan keep fr G N Df M₀ h₀ w₀ L M f j a w)(S:Static ops Ed sb G N plan)(R:Ready ops Ed L i){o:Oper}(ho:ops[i]?=some o){M':Mp}(hle:M.le M'){v:V}{c:Value}(hv:Rp M' v c)(hd:∀d,o.dst=some d→aZ d T.E=some v):
  (∀i' o' d v',(L.setIfInBounds i true).getD i' false=true→ops[i']?=some o'→o'.dst=some d→aZ d T.E=some v'→Rp M' v' ((a.put o.dst c).tmps.getD d undef))∧
  (∀t v',(∀i' o',(L.setIfInBounds i true).getD i' false=true→ops[i']?=some o'→o'.dst≠some t)→fr.get (Pos.of t)=some v'→keep t=true∧Rp M' v' ((a.put o.dst c).tmps.getD t undef))∧
  (a.put o.dst c).tmps.size=N∧(a.put o.dst c).defers=Df:=by
 have hiL:i<L.size:=by rw [I.lsize];exact R.lt
 have hok:=S.oper o (by have:=Array.mem_of_getElem? ho;simpa using this)
 have hdl:∀d,o.dst=some d→d<a.tmps.size:=fun d hd=>by rw [I.size];exact nV hok d hd
 refine⟨fun i' o' d v' hl ho' hd' hv'=>?_,fun t v' hno hv'=>?_,?_,?_⟩
 ·rw [bP L hiL] at hl
  by_cases e:i'=i
  ·subst e
   rw [ho] at ho';cases ho'
   rw [hd',mG (hdl d hd'),if_pos rfl]
   have:=hd d hd'
   rw [hv'] at this;cases this
   exact hv
  ·rw [if_neg e] at hl
   have old:=(I.e1 i' o' d v' hl ho' hd' hv').mono hle
   cases hod:o.dst with
   |none=>exact old
   |some d₀=>
    have hne:d≠d₀:=fun e'=>by subst e';exact e (S.dsts i' i o' o d ho' ho hd' hod)
    rw [mG (hdl d₀ hod),if_neg hne]
    exact old
 ·have h1:=I.e2 t v' (fun i' o' hl ho'=>hno i' o' (by rw [bP L hiL];split<;>first|rfl|exact hl) ho') hv'
  refine⟨h1.1,?_⟩
  have old:=h1.2.mono hle
  cases hod:o.dst with
  |none=>exact old
  |some d₀=>
   have hne:t≠d₀:=fun e'=>by subst e';exact hno i o (by rw [bP L hiL,if_pos rfl]) ho hod
   rw [mG (hdl d₀ hod),if_neg hne]
   exact old
 ·cases o.dst<;>simp [Act.put,I.size]
 ·cases o.dst<;>exact I.plain
theorem Inv.lists(I:Inv T ops Ed plan keep fr G N Df M₀ h₀ w₀ L M f j a w)(R:Ready ops Ed L i):(L.setIfInBounds i true).size=ops.size∧Down Ed (L.setIfInBounds i true):=by
 have hiL:i<L.size:=by rw [I.lsize];exact R.lt
 refine⟨by simp [I.lsize],fun k l hkl hk=>?_⟩
 rw [bP L hiL] at hk⊢
 split
 ·rfl
 ·split at hk
  ·rename_i e;subst e;exact R.edge l hkl
  ·exact I.down k l hkl hk
end step
end
end Go.Vm
namespace Go.Vm
noncomputable section
variable{P:Program}{e:FuncId→Option Fun}{Ed:Nat→Nat→Prop}{ops:Array Oper}{sb:Nat→Nat→Bool}{fr:F}{keep:Nat→Bool}{G N:Nat}{Df:List Deferred}
variable{T:Tr}{plan:Plan}{M₀ M:Mp}{h₀ f:Hp}{w₀ w:World}{L:Array Bool}{j:Nat}{a:Act}{i:Nat}
theorem Inv.yQ(I:Inv T ops Ed plan keep fr G N Df M₀ h₀ w₀ L M f j a w):∀x o,(T.Bs j).get x=some o→f.get x=some o:=by
 intro x o hx
 rw [I.f2 x (fun i' j' ob hA _ hj=>?_)]
 ·exact hx
 ·have:=(I.f3 i' j' x ob hA hj).1
  rw [hx] at this;cases this
theorem Yy{α:Type}{I:List (Nat×α)}(hn:(I.map (·.1)).Nodup){y z:Nat×α}(hy:y∈I)(hz:z∈I)(e:y.1=z.1):y=z:=by
 induction I with
 |nil=>cases hy
 |cons x I ih=>
  have hn':=List.nodup_cons.1 (by simpa using hn:(x.1::I.map (·.1)).Nodup)
  rcases List.mem_cons.1 hy with h1|h1
  ·rcases List.mem_cons.1 hz with h2|h2
   ·rw [h1,h2]
   ·exact absurd (by rw [←h1,e];exact List.mem_map_of_mem h2) hn'.1
  ·rcases List.mem_cons.1 hz with h2|h2
   ·exact absurd (by rw [←h2,←e];exact List.mem_map_of_mem h1) hn'.1
   ·exact ih hn'.2 h1 h2
structure Made (T:Tr) (ops:Array Oper) (Ed:Nat→Nat→Prop) (plan:Plan) (q:Pos):Prop where
 a1:∀i j p ob,(i,j,p,ob)∈T.A→q.nat≤p.nat∧(i,.alloc,j)∈phased 0 plan∧(T.Cs j).get p=some (mP (ent T.I (fun _=>true) j p) ob)∧Wanted ops T.E i
 a2:∀a a',a∈T.A→a'∈T.A→a.2.2.1=a'.2.2.1→a=a'
 a3:∀a a',a∈T.A→a'∈T.A→a.1=a'.1→a=a'
 ct:∀j,(∀x,(∀i ob,(i,j,x,ob)∉T.A)→(T.Cs j).get x=(T.Bs j).get x)∧(T.Cs j).next=(T.Bs j).next
 i1:∀i j p x y,(i,j,p,x,y)∈T.I→∃a,(i,.ins a,j)∈phased 0 plan∧(a,j,p,.map [])∈T.A∧Bef Ed a i∧Wanted ops T.E i
 i2:(T.I.map (·.1)).Nodup
 i4:∀i j p es,(i,j,p,.map es)∈T.A→dN es→dN (es++ent T.I (fun _=>true) j p)
theorem tJ(hI:∀j p x y,(i,j,p,x,y)∉T.I)(hi:i<L.size)(j:Nat)(p:Pos):ent T.I (fun k=>(L.setIfInBounds i true).getD k false) j p=ent T.I (fun k=>L.getD k false) j p:=
 lD fun y hy _ _=>by
  have hne:y.1≠i:=fun e=>hI y.2.1 y.2.2.1 y.2.2.2.1 y.2.2.2.2 (by rw [←e];exact hy)
  rw [bP L hi,if_neg hne]
theorem Inv.YE(I:Inv T ops Ed plan keep fr G N Df M₀ h₀ w₀ L M f j a w)(A:Made T ops Ed plan h₀.next)(hall:∀i' p ob,(i',j,p,ob)∈T.A→L.getD i' false=true)(halli:∀i' p x y,(i',j,p,x,y)∈T.I→L.getD i' false=true):∀x o,(T.Cs j).get x=some o→f.get x=some o:=by
 intro x o hx
 by_cases h:∃i' ob,(i',j,x,ob)∈T.A
 ·obtain⟨i',ob,hA⟩:=h
  have:=(A.a1 _ _ _ _ hA).2.2.1
  rw [hx] at this;cases this
  rw [I.f1 _ _ _ _ hA (hall _ _ _ hA) (Nat.le_refl _)]
  rw [lD (b:=fun _=>true) (b':=fun k=>L.getD k false) fun y hy hj _=>by
   obtain⟨i2,j2,p2,x2,y2⟩:=y
   have hj:j2=j:=hj
   subst hj
   exact(halli _ _ _ _ hy).symm]
 ·rw [(A.ct j).1 x (fun i' ob hA=>h ⟨i',ob,hA⟩)] at hx
  exact I.yQ x o hx
theorem Inv.ahe{g:Hp}(hgs:∀x o,g.get x=some o→f.get x=some o)(hgn:g.next=f.next)(I:Inv T ops Ed plan keep fr G N Df M₀ h₀ w₀ L M f j a w)(S:Static ops Ed sb G N plan)(A:Made T ops Ed plan h₀.next)(R:Ready ops Ed L i){o:Oper}(ho:ops[i]?=some o){c:Cls}{j':Nat}(hp:(i,c,j')∈phased 0 plan)(hc:c≠ .heavy)(hA:∀j1 p ob,(i,j1,p,ob)∉T.A)(hI:∀j p x y,(i,j,p,x,y)∉T.I)
  {M':Mp} {w':World} (hr:Rel G M' g w') (x:Ext M g w M' g w') {v:V} {cv:Value} (hv:Rp M' v cv) (hd:∀d,o.dst=some d→aZ d T.E=some v):
  Inv T ops Ed plan keep fr G N Df M₀ h₀ w₀ (L.setIfInBounds i true) M' f j (a.put o.dst cv) w':=by
 have hiL:i<L.size:=by rw [I.lsize];exact R.lt
 obtain⟨l1,l2⟩:=I.lists R
 obtain⟨k1,k2,k3,k4⟩:=I.adP S R ho x.le hv hd
 have fm:=I.rel.frame (f':=f) hgs hgn hr x (fun y oy hy=>by
  cases hb:g.get y with
  |none=>exact .inr ⟨hy,rfl⟩
  |some o2=>have:=hgs y o2 hb;rw [hy] at this;cases this;exact .inl rfl) hgn.symm
 have hne:∀i' j1 p ob,(i',j1,p,ob)∈T.A→i'≠i:=fun i' j1 p ob h e=>by subst e;exact hA _ _ _ h
 refine⟨l1,l2,I.jle,fun i' j1 h=>?_,fm.1,I.nx,fun i' j1 p ob h hl hj=>?_,fun y hy=>?_,I.f3,fun i' j1 p ob h hl=>?_,k1,k2,k3,k4,I.ext.trans fm.2⟩
 ·have hne':i'≠i:=fun e=>by
   subst e
   obtain⟨h1,_⟩:=fC S.nodup hp h
   exact hc h1
  rw [bP L hiL,if_neg hne']
  exact I.ph i' j1 h
 ·rw [bP L hiL,if_neg (hne _ _ _ _ h)] at hl
  rw [tJ hI hiL]
  exact I.f1 i' j1 p ob h hl hj
 ·exact I.f2 y fun i' j1 ob h hl=>hy i' j1 ob h (by rw [bP L hiL,if_neg (hne _ _ _ _ h)];exact hl)
 ·rw [bP L hiL,if_neg (hne _ _ _ _ h)] at hl
  have hn:=I.un i' j1 p ob h hl
  by_cases hlt:p.nat<g.next.nat
  ·exact x.none p hlt hn
  ·exact hr.fresh p (by omega)
theorem Inv.still(I:Inv T ops Ed plan keep fr G N Df M₀ h₀ w₀ L M f j a w)(S:Static ops Ed sb G N plan)(A:Made T ops Ed plan h₀.next)(R:Ready ops Ed L i){o:Oper}(ho:ops[i]?=some o){c:Cls}{j':Nat}(hp:(i,c,j')∈phased 0 plan)(hc:c≠ .heavy)(hA:∀j1 p ob,(i,j1,p,ob)∉T.A)(hI:∀j p x y,(i,j,p,x,y)∉T.I)
  {M':Mp} {w':World} (hr:Rel G M' (T.Bs j) w') (x:Ext M (T.Bs j) w M' (T.Bs j) w') {v:V} {cv:Value} (hv:Rp M' v cv) (hd:∀d,o.dst=some d→aZ d T.E=some v):
  Inv T ops Ed plan keep fr G N Df M₀ h₀ w₀ (L.setIfInBounds i true) M' f j (a.put o.dst cv) w':=
 I.ahe I.yQ I.nx.symm S A R ho hp hc hA hI hr x hv hd
theorem Inv.make(I:Inv T ops Ed plan keep fr G N Df M₀ h₀ w₀ L M f j a w)(S:Static ops Ed sb G N plan)(A:Made T ops Ed plan h₀.next)(R:Ready ops Ed L i){o:Oper}(ho:ops[i]?=some o){j':Nat}(hp:(i,.alloc,j')∈phased 0 plan)
  {ob:Ob} {p:Pos} (hA:(i,j',p,ob)∈T.A) {w':World} {b:Obj} {n:Nat} (hw:w'.heap=w.heap.push b) (hos:w'.os=w.os) (ht:w'.tape=w.tape) (hout:w'.output=w.output)
  (hob:∀N:Mp,M.le N→dV N ⟨w.heap.size,0,n⟩ w' ob) {v:V} {cv:Value} (hv:Rp (M.add p ⟨w.heap.size,0,n⟩) v cv) (hd:∀d,o.dst=some d→aZ d T.E=some v):
  Inv T ops Ed plan keep fr G N Df M₀ h₀ w₀ (L.setIfInBounds i true) (M.add p ⟨w.heap.size,0,n⟩) (f.put p (some ob)) j (a.put o.dst cv) w':=by
 have hiL:i<L.size:=by rw [I.lsize];exact R.lt
 obtain⟨l1,l2⟩:=I.lists R
 have hj:=I.as2 S R hp
 have hM:M p=none:=I.un _ _ _ _ hA R.no
 have hlt:=(I.f3 _ _ _ _ hA hj).2
 have hge:=(A.a1 _ _ _ _ hA).1
 obtain⟨g1,g2,g3,g4⟩:=I.adP S R ho (Mp.qQ hM _) hv hd
 have one:∀i' j1 p1 ob1,(i',j1,p1,ob1)∈T.A→p1=p→i'=i∧ob1=ob:=fun i' j1 p1 ob1 h e=>by
  have:=A.a2 _ _ h hA e
  cases this;exact⟨rfl,rfl⟩
 have one':∀i' j1 p1 ob1,(i',j1,p1,ob1)∈T.A→i'=i→p1=p∧ob1=ob:=fun i' j1 p1 ob1 h e=>by
  have:=A.a3 _ _ h hA e
  cases this;exact⟨rfl,rfl⟩
 have hI:∀j p x y,(i,j,p,x,y)∉T.I:=fun j1 p1 x1 y1 h=>by
  obtain⟨a1,h1,_⟩:=A.i1 _ _ _ _ _ h
  obtain⟨h2,_⟩:=fC S.nodup hp h1
  cases h2
 refine⟨l1,l2,I.jle,fun i' j1 h=>?_,I.rel.putAt hM (by rw [I.nx];exact hlt) ob b n hw hob,I.nx,fun i' j1 p1 ob1 h hl hj1=>?_,fun y hy=>?_,I.f3,fun i' j1 p1 ob1 h hl=>?_,g1,g2,g3,g4,I.ext.putAt hM hge ob b n hw hos ht hout⟩
 ·have hne':i'≠i:=fun e=>by
   subst e
   obtain⟨h1,_⟩:=fC S.nodup hp h
   cases h1
  rw [bP L hiL,if_neg hne']
  exact I.ph i' j1 h
 ·by_cases e:i'=i
  ·have e2:=A.a3 _ _ h hA e
   cases e2
   rw [tJ hI hiL,qW fun y hy hj1 hp1=>?_,mO]
   ·exact Hp.bC _ _ _
   ·obtain⟨i2,j2,p2,x2,y2⟩:=y
    have hj1:j2=j':=hj1
    have hp1:p2=p:=hp1
    subst hj1;subst hp1
    obtain⟨a2,_,g1,g2,_⟩:=A.i1 _ _ _ _ _ hy
    have e3:=A.a2 _ _ g1 hA rfl
    cases e3
    exact R.oz I.down g2
  ·have hne:p1≠p:=fun e'=>e (one _ _ _ _ h e').1
   rw [Hp.aY _ hne]
   rw [bP L hiL,if_neg e] at hl
   rw [tJ hI hiL]
   exact I.f1 i' j1 p1 ob1 h hl hj1
 ·have hne:y≠p:=fun e=>by
   subst e
   exact hy i j' ob hA (by rw [bP L hiL,if_pos rfl]) hj
  rw [Hp.aY _ hne]
  refine I.f2 y fun i' j1 ob1 h hl=>hy i' j1 ob1 h ?_
  rw [bP L hiL];split
  ·rfl
  ·exact hl
 ·rw [bP L hiL] at hl
  split at hl
  ·cases hl
  ·rename_i e
   have hne:p1≠p:=fun e'=>e (one _ _ _ _ h e').1
   rw [Mp.dM _ hne]
   exact I.un _ _ _ _ h hl
theorem Inv.turn(I:Inv T ops Ed plan keep fr G N Df M₀ h₀ w₀ L M f j a w)(S:Static ops Ed sb G N plan)(A:Made T ops Ed plan h₀.next)(R:Ready ops Ed L i){o:Oper}(ho:ops[i]?=some o)(hp:(i,.heavy,j)∈phased 0 plan)
  {M':Mp} {w':World} (hr:Rel G M' (T.Bs (j+1)) w') (x:Ext M (T.Cs j) w M' (T.Bs (j+1)) w') {v:V} {cv:Value} (hv:Rp M' v cv) (hd:∀d,o.dst=some d→aZ d T.E=some v):
  ∃f',Inv T ops Ed plan keep fr G N Df M₀ h₀ w₀ (L.setIfInBounds i true) M' f' (j+1) (a.put o.dst cv) w':=by
 have hiL:i<L.size:=by rw [I.lsize];exact R.lt
 obtain⟨l1,l2⟩:=I.lists R
 obtain⟨g1,g2,g3,g4⟩:=I.adP S R ho x.le hv hd
 have hall:∀i' p ob,(i',j,p,ob)∈T.A→L.getD i' false=true:=fun i' p ob h=>
  R.bef I.down (S.alloc i' j i j (A.a1 _ _ _ _ h).2.1 hp (Nat.le_refl _))
 have halli:∀i' p x y,(i',j,p,x,y)∈T.I→L.getD i' false=true:=fun i' p x1 y1 h=>by
  obtain⟨a1,h1,_⟩:=A.i1 _ _ _ _ _ h
  exact R.bef I.down (S.insU i' a1 j i j h1 hp (Nat.le_refl _))
 have hI:∀j p x y,(i,j,p,x,y)∉T.I:=fun j1 p1 x1 y1 h=>by
  obtain⟨a1,h1,_⟩:=A.i1 _ _ _ _ _ h
  obtain⟨h2,_⟩:=fC S.nodup hp h1
  cases h2
 have hsub:=I.YE A hall halli
 have hnx:(T.Cs j).next=f.next:=by rw [(A.ct j).2,I.nx]
 have hnot:∀i' j1 p ob,(i',j1,p,ob)∈T.A→j+1≤j1→(T.Cs j).get p=none:=fun i' j1 p ob h hj=>by
  rw [(A.ct j).1 p (fun i2 ob2 h2=>?_)]
  ·exact(I.f3 _ _ _ _ h (by omega)).1
  ·have:=A.a2 _ _ h h2 rfl
   cases this;omega
 have hne:∀i' j1 p ob,(i',j1,p,ob)∈T.A→i'≠i:=fun i' j1 p ob h e=>by
  subst e
  obtain⟨h1,_⟩:=fC S.nodup hp (A.a1 _ _ _ _ h).2.1
  cases h1
 let items:List (Pos×Ob):=(T.A.filter fun y=>L.getD y.1 false&&decide (j+1≤y.2.1)).map fun y=>(y.2.2.1,mP (ent T.I (fun k=>L.getD k false) y.2.1 y.2.2.1) y.2.2.2)
 have hit:∀p ob,(p,ob)∈items↔∃i' j1 ob1,(i',j1,p,ob1)∈T.A∧L.getD i' false=true∧j+1≤j1∧ob=mP (ent T.I (fun k=>L.getD k false) j1 p) ob1:=by
  intro p ob
  simp only [items,List.mem_map,List.mem_filter,Bool.and_eq_true,decide_eq_true_eq]
  constructor
  ·rintro⟨⟨i',j1,p1,ob1⟩,⟨h1,h2,h3⟩,h4⟩
   cases h4
   exact⟨i',j1,ob1,h1,h2,h3,rfl⟩
  ·rintro⟨i',j1,ob1,h1,h2,h3,rfl⟩
   exact⟨(i',j1,p,ob1),⟨h1,h2,h3⟩,rfl⟩
 let f':=oO (T.Bs (j+1)) items
 have hf'n:f'.next=(T.Bs (j+1)).next:=TM _ _
 have hf'1:∀p ob,(p,ob)∈items→f'.get p=some ob:=fun p ob h=>DY h fun ob' h'=>by
  obtain⟨i1,j1,ob1,h1,_,_,rfl⟩:=(hit _ _).1 h
  obtain⟨i2,j2,ob2,h2,_,_,rfl⟩:=(hit _ _).1 h'
  have:=A.a2 _ _ h1 h2 rfl
  cases this;rfl
 have hf'2:∀p,(∀ob,(p,ob)∉items)→f'.get p=(T.Bs (j+1)).get p:=fun p h=>DX h
 have fm:=I.rel.frame (f':=f') hsub hnx hr x (fun y oy hy=>by
  by_cases h:∃ob,(y,ob)∈items
  ·obtain⟨ob,h⟩:=h
   rw [hf'1 y ob h] at hy;cases hy
   obtain⟨i',j1,ob1,h1,h2,h3,rfl⟩:=(hit _ _).1 h
   exact .inr ⟨I.f1 _ _ _ _ h1 h2 (by omega),hnot _ _ _ _ h1 h3⟩
  ·rw [hf'2 y (fun ob hm=>h ⟨ob,hm⟩)] at hy
   exact .inl hy) hf'n
 refine⟨f',l1,l2,?_,fun i' j1 h=>?_,fm.1,hf'n,fun i' j1 p ob h hl hj=>?_,fun y hy=>?_,fun i' j1 p ob h hj=>?_,fun i' j1 p ob h hl=>?_,g1,g2,g3,g4,I.ext.trans fm.2⟩
 ·have:=(jc hp).2 rfl;omega
 ·rw [bP L hiL]
  by_cases e:i'=i
  ·subst e
   obtain⟨_,h1⟩:=fC S.nodup hp h
   rw [if_pos rfl];subst h1
   exact⟨fun _=>by omega,fun _=>rfl⟩
  ·rw [if_neg e,I.ph i' j1 h]
   constructor
   ·intro h1;omega
   ·intro h1
    rcases Nat.lt_or_ge j1 j with h2|h2
    ·exact h2
    ·exfalso
     have hj1:j1=j:=by omega
     subst hj1
     exact e (S.same i' i j1 h hp)
 ·rw [bP L hiL,if_neg (hne _ _ _ _ h)] at hl
  rw [tJ hI hiL]
  exact hf'1 p _ ((hit _ _).2 ⟨i',j1,ob,h,hl,hj,rfl⟩)
 ·refine hf'2 y fun ob hm=>?_
  obtain⟨i',j1,ob1,h1,h2,h3,rfl⟩:=(hit _ _).1 hm
  exact hy i' j1 ob1 h1 (by rw [bP L hiL,if_neg (hne _ _ _ _ h1)];exact h2) h3
 ·have h1:=I.f3 _ _ _ _ h (show j≤j1 by omega)
  have hn:(T.Cs j).next=(T.Bs j).next:=(A.ct j).2
  exact⟨x.old p (by rw [hn];exact h1.2) (hnot _ _ _ _ h hj),by have:=x.next;rw [hn] at this;omega⟩
 ·rw [bP L hiL,if_neg (hne _ _ _ _ h)] at hl
  have hn:=I.un i' j1 p ob h hl
  have hj1:j≤j1:=by
   rcases Nat.lt_or_ge j1 j with h2|h2
   ·have hlt:j1<aU plan:=by have:=I.jle;omega
    obtain⟨i2,hp2,_⟩:=S.heavyAt j1 hlt
    have h3:=(I.ph i2 j1 hp2).2 h2
    have:=I.down.bef (S.alloc i' j1 i2 j1 (A.a1 _ _ _ _ h).2.1 hp2 (Nat.le_refl _)) h3
    rw [hl] at this;cases this
   ·exact h2
  exact x.none p (by rw [(A.ct j).2];exact(I.f3 _ _ _ _ h hj1).2) hn
theorem Inv.ins(I:Inv T ops Ed plan keep fr G N Df M₀ h₀ w₀ L M f j a w)(S:Static ops Ed sb G N plan)(A:Made T ops Ed plan h₀.next)(R:Ready ops Ed L i){o:Oper}(ho:ops[i]?=some o){x:Nat}{j':Nat}(hp:(i,.ins x,j')∈phased 0 plan)
  {b:Nat} {p:Pos} {k y:V} (hI:(i,j',p,k,y)∈T.I) (hA:(b,j',p,.map [])∈T.A) {M':Mp} {w':World}
  (hr:Rel G M' (f.put p (some (.map (ent T.I (fun k=>L.getD k false) j' p++ [(k,y)])))) w') (hx:Ext M f w M' (f.put p (some (.map (ent T.I (fun k=>L.getD k false) j' p++ [(k,y)])))) w') {cv:Value} (hv:Rp M' V.undef cv) (hd:∀d,o.dst=some d→aZ d T.E=some V.undef):
  Inv T ops Ed plan keep fr G N Df M₀ h₀ w₀ (L.setIfInBounds i true) M' (f.put p (some (.map (ent T.I (fun k=>(L.setIfInBounds i true).getD k false) j' p)))) j (a.put o.dst cv) w':=by
 have hiL:i<L.size:=by rw [I.lsize];exact R.lt
 obtain⟨l1,l2⟩:=I.lists R
 have hj:=I.ajQ S R hp
 obtain⟨g1,g2,g3,g4⟩:=I.adP S R ho hx.le hv hd
 have hperm:List.Perm (ent T.I (fun k=>L.getD k false) j' p++ [(k,y)]) (ent T.I (fun k=>(L.setIfInBounds i true).getD k false) j' p):=
  (Ei (y:=(i,j',p,k,y)) A.i2 hI R.no (by show(L.setIfInBounds i true).getD i false=true;rw [bP L hiL,if_pos rfl]) fun k hk=>by show(L.setIfInBounds i true).getD k false=_;rw [bP L hiL,if_neg hk]).symm
 have hnA:∀j1 p1 ob1,(i,j1,p1,ob1)∉T.A:=fun j1 p1 ob1 h=>by
  obtain⟨h1,_⟩:=fC S.nodup hp (A.a1 _ _ _ _ h).2.1
  cases h1
 have hoth:∀j1 p1,p1≠p→ent T.I (fun k=>(L.setIfInBounds i true).getD k false) j1 p1=ent T.I (fun k=>L.getD k false) j1 p1:=fun j1 p1 hne=>lD fun z hz _ hzp=>by
  by_cases e:z.1=i
  ·exfalso
   have h1:z=(i,j',p,k,y):=Yy A.i2 hz hI e
   subst h1
   exact hne hzp.symm
  ·rw [bP L hiL,if_neg e]
 refine⟨l1,l2,I.jle,fun i' j1 h=>?_,hr.perm hperm,I.nx,fun i' j1 p1 ob1 h hl hj1=>?_,fun z hz=>?_,I.f3,fun i' j1 p1 ob1 h hl=>?_,g1,g2,g3,g4,I.ext.trans hx.perm⟩
 ·have hne':i'≠i:=fun e=>by
   subst e
   obtain⟨h1,_⟩:=fC S.nodup hp h
   cases h1
  rw [bP L hiL,if_neg hne']
  exact I.ph i' j1 h
 ·have hne':i'≠i:=fun e=>by subst e;exact hnA _ _ _ h
  rw [bP L hiL,if_neg hne'] at hl
  by_cases hpp:p1=p
  ·subst hpp
   have:=A.a2 _ _ h hA rfl
   cases this
   rw [Hp.bC]
   rfl
  ·rw [Hp.aY _ hpp,hoth j1 p1 hpp]
   exact I.f1 i' j1 p1 ob1 h hl hj1
 ·by_cases hzp:z=p
  ·subst hzp
   obtain⟨a2,_,k1,k2,_⟩:=A.i1 _ _ _ _ _ hI
   exact absurd hj (hz a2 j' _ k1 (by
    have:=R.bef I.down k2
    rw [bP L hiL];split
    ·rfl
    ·exact this))
  ·rw [Hp.aY _ hzp]
   refine I.f2 z fun i' j1 ob1 h hl=>hz i' j1 ob1 h ?_
   rw [bP L hiL];split
   ·rfl
   ·exact hl
 ·have hne':i'≠i:=fun e=>by subst e;exact hnA _ _ _ h
  rw [bP L hiL,if_neg hne'] at hl
  have hn:=I.un i' j1 p1 ob1 h hl
  by_cases hlt:p1.nat<f.next.nat
  ·exact hx.none p1 hlt hn
  ·exact hr.fresh p1 (by show f.next.nat≤p1.nat;omega)
end
end Go.Vm
namespace Go.Vm
noncomputable section
variable{P:Program}{e:FuncId→Option Fun}{Ed:Nat→Nat→Prop}{ops:Array Oper}{sb:Nat→Nat→Bool}{fr:F}{keep:Nat→Bool}{G N:Nat}{Df:List Deferred}
variable{T:Tr}{plan:Plan}{M₀ M:Mp}{h₀ f:Hp}{w₀ w:World}{L:Array Bool}{j:Nat}{a:Act}{i:Nat}
def Dx(c:Value):Option Bool:=match c with| .bool b=>some b|_=>none
theorem uK{g d:Nat}{c:Value}(hd:(ops[g]?).bind (·.dst)=some d)(hv:a.tmps.getD d undef=c):yielded ops a.tmps g=Dx c:=by
 unfold yielded
 rw [hd]
 simp only [Option.bind_some]
 rw [Array.getD_eq_getD_getElem?] at hv
 cases hq:a.tmps[d]? with
 |none=>rw [hq] at hv;simp at hv;subst hv;rfl
 |some z=>rw [hq] at hv;simp at hv;subst hv;cases z<;>rfl
theorem Inv.yL(I:Inv T ops Ed plan keep fr G N Df M₀ h₀ w₀ L M f j a w)(S:Static ops Ed sb G N plan)(R:Ready ops Ed L i){o:Oper}(ho:ops[i]?=some o){g d:Nat}{b:Bool}(hg:o.guard=some (g,b))(hd:(ops[g]?).bind (·.dst)=some d){v:V}(hv:aZ d T.E=some v):
  Rp M v (a.tmps.getD d undef):=by
 have hL:=R.bef I.down (S.guard i o g b ho hg)
 cases hog:ops[g]? with
 |none=>rw [hog] at hd;cases hd
 |some og=>
  rw [hog] at hd
  exact I.e1 g og d v hL hog hd hv
theorem Inv.step(hE:∀f F,e f=some F→aj P G f F)(I:Inv T ops Ed plan keep fr G N Df M₀ h₀ w₀ L M f j a w)(S:Static ops Ed sb G N plan)(A:Made T ops Ed plan h₀.next)
  (hst:∀i c j,(i,c,j)∈phased 0 plan→fF P e ops sb fr T i c j) (R:Ready ops Ed L i) {Q:Exit→Act→World→Prop}:
  wpOp P ops Q i (fun a' w'=>∃M' f' j',Inv T ops Ed plan keep fr G N Df M₀ h₀ w₀ (L.setIfInBounds i true) M' f' j' a' w') a w:=by
 obtain⟨c,j',hp⟩:=S.cover i R.lt
 obtain⟨o,ho,hcase⟩:=hst i c j' hp
 unfold wpOp
 simp only [ho]
 have notA:c≠ .alloc→∀j1 p ob,(i,j1,p,ob)∉T.A:=fun hc j1 p ob h=>by
  obtain⟨h1,_⟩:=fC S.nodup hp (A.a1 _ _ _ _ h).2.1
  exact hc h1
 have notI:(∀x,c≠ .ins x)→∀j p x y,(i,j,p,x,y)∉T.I:=fun hc j1 p1 x1 y1 h=>by
  obtain⟨a1,h1,_⟩:=A.i1 _ _ _ _ _ h
  obtain⟨h2,_⟩:=fC S.nodup hp h1
  exact hc _ h2
 have hbr:Rel G M (T.Bs j) w:=I.rel.sub I.yQ (by rw [I.nx];exact Nat.le_refl _)
 have hcr:c=.heavy→j'=j∧Rel G M (T.Cs j) w:=fun hc=>by
  subst hc
  have hj:=I.asZ S R hp
  subst hj
  refine⟨rfl,I.rel.sub (I.YE A (fun i' p ob h=>R.bef I.down (S.alloc i' _ i _ (A.a1 _ _ _ _ h).2.1 hp (Nat.le_refl _))) fun i' p x y h=>?_) ?_⟩
  ·obtain⟨a1,h1,_⟩:=A.i1 _ _ _ _ _ h
   exact R.bef I.down (S.insU i' a1 _ i _ h1 hp (Nat.le_refl _))
  rw [I.nx,(A.ct _).2];exact Nat.le_refl _
 rcases hcase with⟨hg,vs,v,hsrc,hd,hcls⟩|⟨⟨g,b,d,hg,hgd,hgv⟩,hd,hh⟩
 ·have hw:Region.wanted o (yielded ops a.tmps)=true:=by
   rcases hg with hg|⟨g,b,d,hg,hgd,hgv⟩
   ·simp [Region.wanted,hg]
   ·have:=(I.yL S R ho hg hgd hgv).bool
    have hy:=uK hgd this
    simp [Region.wanted,hg,hy,Dx]
  rw [if_pos hw]
  left
  have hvs:=I.operands S R ho (fun _ h=>h) hsrc
  cases c with
  |pure=>
   obtain⟨hpu,h1,h2,hop⟩:=hcls
   have hop':dY P e o.op vs (T.Bs j)=.ok v (T.Bs j):=by
    have:=pure_ok (e:=e) vs hpu h1 (T.Bs j)
    rw [hop] at this;exact this
   exact kX (mg hE hvs hbr hop') fun cv w' ⟨M',hv,hr',hx⟩=>⟨M',f,j,I.still S A R ho hp (by simp) (notA (by simp)) (notI (by simp)) hr' hx hv hd⟩
  |read n=>
   obtain⟨hro,hop⟩:=hcls
   obtain⟨h1,h2⟩:=I.avQ S R hp
   obtain⟨h',hop⟩:=hop j h1 h2
   have hsame:=ahf hro hop
   subst hsame
   exact kX (mg hE hvs hbr hop) fun cv w' ⟨M',hv,hr',hx⟩=>⟨M',f,j,I.still S A R ho hp (by simp) (notA (by simp)) (notI (by simp)) hr' hx hv hd⟩
  |alloc=>
   obtain⟨ob,mk,p,hal,hv,hA⟩:=hcls
   obtain⟨cv,w',bb,n,hrun,hw',hos,ht,hout,hob,hmk⟩:=Uh (P:=P) (w:=w) hvs hal
   unfold Oper.wp
   rw [hrun]
   refine⟨_,_,j,I.make S A R ho hp hA hw' hos ht hout hob (v:=v) ?_ hd⟩
   rw [hv]
   exact hmk _ _ (Mp.bZ _ _ _)
  |own x=>
   obtain⟨u,p,h1,rfl,hown,hu,hop⟩:=hcls
   obtain⟨hpa,hbef,oa,o',t,hoa,hta,ho',hops,hsb⟩:=S.ownA i x j' hp
   rw [ho] at ho';cases ho'
   have hLa:=R.bef I.down hbef
   have hj:=I.aEC S R hp
   obtain⟨oa',hoa',hca⟩:=hst x .alloc j' hpa
   rw [hoa] at hoa';cases hoa'
   rw [hops] at hsrc
   obtain⟨u',us,hus,hsu,-⟩:=hsrc
   cases hus
   have hut:aZ t T.E=some u:=by
    rcases hsu with⟨_,hf⟩|⟨hn,_⟩
    ·exact hf
    ·rw [hsb] at hn;cases hn
   rcases hca with⟨_,vs2,v2,_,hd2,ob,mk,p2,hal,hv2,hA⟩|⟨_,hd2,_⟩
   ·have e2:=hd2 t hta
    rw [hut] at e2
    cases e2
    have hp2:p2=p:=by
     rw [hv2] at hu
     exact(as3 hal hu).symm
    subst hp2
    have hfp:=I.f1 _ _ _ _ hA hLa hj
    have hcp:=(A.a1 _ _ _ _ hA).2.2.1
    obtain⟨cs,hrow⟩:=UL hown hu hop
    have hopf:=Jg (g:=f) hown hu (by
     rw [hfp,hcp]
     rw [hcp] at hrow
     cases ob<;>first|rfl|cases hrow) hop
    exact kX (mg hE hvs I.rel hopf) fun cv w' ⟨M',hv,hr',hx⟩=>⟨M',f,j,I.ahe (fun _ _ h=>h) rfl S A R ho hp (by simp) (notA (by simp)) (notI (by simp)) hr' hx hv hd⟩
   ·have e2:=hd2 t hta
    rw [hut] at e2
    cases e2
    cases hu
  |ins x=>
   obtain⟨p,k,y,rfl,⟨t,mm,kk,vv,kt,et,d,hop,hkt,hdk,hf⟩,rfl,hI⟩:=hcls
   obtain⟨b,hpi,hA,hbef,-⟩:=A.i1 _ _ _ _ _ hI
   have hj:=I.ajQ S R hp
   have hfp:=I.f1 _ _ _ _ hA (R.bef I.down hbef) hj
   have hiL:i<L.size:=by rw [I.lsize];exact R.lt
   have hkd:dN (ent T.I (fun k=>L.getD k false) j' p++ [(k,y)]):=by
    have h1:=A.i4 _ _ _ [] hA List.Pairwise.nil
    refine dN.perm ?_ (h1.sub (ayl T.I (fun k=>(L.setIfInBounds i true).getD k false) j' p))
    exact Ei (y:=(i,j',p,k,y)) A.i2 hI R.no (by show(L.setIfInBounds i true).getD i false=true;rw [bP L hiL,if_pos rfl]) fun k hk=>by show(L.setIfInBounds i true).getD k false=_;rw [bP L hiL,if_neg hk]
   have hopf:dY P e o.op [.map p,k,y] f=.ok V.undef (f.put p (some (.map (ent T.I (fun k=>L.getD k false) j' p++ [(k,y)])))):=by
    rw [hop]
    show kH P t (.map p) k y f=_
    unfold kH
    rw [hkt]
    simp only [hdk,hf]
    unfold nX
    simp only [hfp,mP,List.nil_append,I7 hkd.last]
   exact kX (mg hE hvs I.rel hopf) fun cv w' ⟨M',hv,hr',hx⟩=>⟨M',_,j,I.ins S A R ho hp hI hA hr' hx hv hd⟩
  |heavy=>
   obtain⟨hj,hcr⟩:=hcr rfl
   subst hj
   exact kX (mg hE hvs hcr hcls) fun cv w' ⟨M',hv,hr',hx⟩=>by
    obtain⟨f',hI⟩:=I.turn S A R ho hp hr' hx hv hd
    exact⟨M',f',_,hI⟩
 ·have hy:Region.wanted o (yielded ops a.tmps)=false:=by
   rcases hgv with hgv|⟨l,hgv⟩
   ·have:=uK hgd (I.yL S R ho hg hgd hgv).bool
    simp only [Region.wanted,hg,this,Dx]
    cases b<;>rfl
   ·obtain⟨xs,_,hc⟩:=(I.yL S R ho hg hgd hgv).tuple
    have:=uK hgd hc
    simp only [Region.wanted,hg,this,Dx]
    cases b<;>rfl
  rw [hy]
  simp only [Bool.false_eq_true,if_false]
  have hno:∀j1 p ob,(i,j1,p,ob)∉T.A:=fun j1 p ob h=>by
   obtain⟨o',ho',hw⟩:=(A.a1 _ _ _ _ h).2.2.2
   rw [ho] at ho';cases ho'
   rcases hw with hw|⟨g',b',d',hw1,hw2,hw3⟩
   ·rw [hg] at hw;cases hw
   ·rw [hg] at hw1;cases hw1
    rw [hgd] at hw2;cases hw2
    rcases hgv with hgv|⟨l,hgv⟩
    ·rw [hgv] at hw3;cases b<;>cases hw3
    ·rw [hgv] at hw3;cases hw3
  have hnoI:∀j p x y,(i,j,p,x,y)∉T.I:=fun j1 p1 x1 y1 h=>by
   obtain⟨_,_,_,_,o',ho',hw⟩:=A.i1 _ _ _ _ _ h
   rw [ho] at ho';cases ho'
   rcases hw with hw|⟨g',b',d',hw1,hw2,hw3⟩
   ·rw [hg] at hw;cases hw
   ·rw [hg] at hw1;cases hw1
    rw [hgd] at hw2;cases hw2
    rcases hgv with hgv|⟨l,hgv⟩
    ·rw [hgv] at hw3;cases b<;>cases hw3
    ·rw [hgv] at hw3;cases hw3
  by_cases hc:c=.heavy
  ·obtain⟨hj,hcr2⟩:=hcr hc
   subst hj
   subst hc
   have hB:=hh rfl
   obtain⟨f',hI⟩:=I.turn S A R ho hp (M':=M) (w':=w) (by rw [hB];exact hcr2) (by rw [hB];exact .refl hcr2) (gu M) hd
   exact⟨M,f',_,hI⟩
  ·exact⟨M,f,j,I.still S A R ho hp hc hno hnoI hbr (.refl hbr) (gu M) hd⟩
def left(L:Array Bool):Nat:=L.toList.countP (fun b=>!b)
theorem JW{L:Array Bool}{i:Nat}(hi:i<L.size)(hno:L.getD i false=false):left (L.setIfInBounds i true)+1=left L:=by
 unfold left
 rw [Array.toList_setIfInBounds,List.countP_set (by simpa using hi)]
 have h1:L.toList[i]'(by simpa using hi)=false:=by
  rw [Array.getElem_toList]
  simpa [Array.getD,hi] using hno
 have h2:0<L.toList.countP (fun b=>!b):=by
  rw [List.countP_pos_iff]
  exact⟨false,by rw [←h1];exact List.getElem_mem _,rfl⟩
 rw [h1]
 simp only [Bool.not_false,Bool.not_true,if_true,Bool.false_eq_true,if_false]
 omega
theorem FW{L:Array Bool}(h:left L=0){i:Nat}(hi:i<L.size):L.getD i false=true:=by
 unfold left at h
 rw [List.countP_eq_zero] at h
 have:=h L[i] (by simp)
 simpa [Array.getD,hi] using this
theorem any_ok(hE:∀f F,e f=some F→aj P G f F)(back:∀j i,Edge ops j i→j<i)(S:Static ops (Edge ops) sb G N plan)(A:Made T ops (Edge ops) plan h₀.next)
  (hst:∀i c j,(i,c,j)∈phased 0 plan→fF P e ops sb fr T i c j) {Q:Exit→Act→World→Prop}
  (hfin:∀L M f j a w,Inv T ops (Edge ops) plan keep fr G N Df M₀ h₀ w₀ L M f j a w→(∀i,i<ops.size→L.getD i false=true)→Q .normal a w):
  ∀(fuel:Nat) (L:Array Bool) (M:Mp) (f:Hp) (j:Nat) (a:Act) (w:World),left L≤fuel→Inv T ops (Edge ops) plan keep fr G N Df M₀ h₀ w₀ L M f j a w→wpAny P .any ops Q fuel L a w:=by
 intro fuel
 induction fuel with
 |zero=>
  intro L M f j a w hl I
  have hall:∀i,i<ops.size→L.getD i false=true:=fun i hi=>FW (by omega) (by rw [I.lsize];exact hi)
  refine⟨?_,hfin L M f j a w I hall⟩
  apply List.eq_nil_iff_forall_not_mem.2
  intro i hi
  have R:=sD I.lsize hi
  have:=hall i R.lt
  rw [R.no] at this;cases this
 |succ fuel ih=>
  intro L M f j a w hl I
  refine⟨fun hr=>hfin L M f j a w I fun i=>?_,fun i hi=>?_⟩
  ·induction i using Nat.strongRecOn with
   |_ i ihi=>
    intro hi
    cases hv:L.getD i false with
    |true=>rfl
    |false=>
     exfalso
     have:i∈Region.ready .any ops L:=IV I.lsize hi hv fun k hk=>ihi k (back k i hk) (by have:=back k i hk;omega)
     rw [hr] at this;cases this
  ·have R:=sD I.lsize hi
   refine wpOp_mono ?_ (I.step hE S A hst R (Q:=Q))
   rintro a' w' ⟨M',f',j',I'⟩
   have:=JW (by rw [I.lsize];exact R.lt) R.no
   exact ih _ M' f' j' a' w' (by omega) I'
def bump(n:Nat)(p:Pos):Pos:=Nat.rec (motive:=fun _=>Pos) p (fun _ ih=>ih.succ) n
theorem N8(n:Nat)(p:Pos):(bump n p).nat=p.nat+n:=by
 induction n with
 |zero=>rfl
 |succ n ih=>show(bump n p).succ.nat=_;rw [Pos.dS,ih];omega
def jo(keep:Nat→Bool)(E:Env)(k:F→Out):List Oper→F→Out
 | [],fr=>k fr
 |o::l,fr=>(match o.dst with
  |none=>jo keep E k l fr
  |some d=>(match keep d with
   |false=>jo keep E k l fr
   |true=>(match aZ d E with|some v=>jo keep E k l (fr.set (some v) (Pos.of d))|none=>.bad)))
theorem wX{E:Env}{k:F→Out}{out:Out}(hb:out≠ .bad):∀{l:List Oper} {fr:F},jo keep E k l fr=out→
  ∃fr',k fr'=out∧∀t v,fr'.get (Pos.of t)=some v→(∃o∈l,o.dst=some t∧keep t=true∧aZ t E=some v)∨((∀o∈l,o.dst=some t→keep t=false)∧fr.get (Pos.of t)=some v)
 | [],fr,h=>⟨fr,h,fun t v hv=>.inr ⟨fun o ho=>(by cases ho),hv⟩⟩
 |o::l,fr,h=>by
  unfold jo at h
  have keepOn:(∀t,o.dst=some t→keep t=false)→jo keep E k l fr=out→∃fr',k fr'=out∧∀t v,fr'.get (Pos.of t)=some v→(∃o'∈o::l,o'.dst=some t∧keep t=true∧aZ t E=some v)∨((∀o'∈o::l,o'.dst=some t→keep t=false)∧fr.get (Pos.of t)=some v):=by
   intro hno h
   obtain⟨fr',h1,h2⟩:=wX hb h
   refine⟨fr',h1,fun t v hv=>?_⟩
   rcases h2 t v hv with⟨o',a,b⟩|⟨a,b⟩
   ·exact .inl ⟨o',by simp [a],b⟩
   ·refine .inr ⟨fun o' ho' hd=>?_,b⟩
    rcases List.mem_cons.1 ho' with rfl|ho'
    ·exact hno t hd
    ·exact a o' ho' hd
  split at h
  ·rename_i hd
   exact keepOn (fun t ht=>by rw [hd] at ht;cases ht) h
  ·rename_i d hd
   split at h
   ·rename_i hk
    exact keepOn (fun t ht=>by rw [hd] at ht;cases ht;exact hk) h
   ·rename_i hk
    split at h
    ·rename_i v hv
     obtain⟨fr',h1,h2⟩:=wX hb h
     refine⟨fr',h1,fun t u hu=>?_⟩
     rcases h2 t u hu with⟨o',a,b⟩|⟨a,b⟩
     ·exact .inl ⟨o',by simp [a],b⟩
     ·by_cases ht:t=d
      ·subst ht
       rw [T.gU] at b
       cases b
       exact .inl ⟨o,by simp,hd,hk,hv⟩
      ·rw [T.iO _ (fun e=>ht (Pos.ve e))] at b
       refine .inr ⟨fun o' ho' hd'=>?_,b⟩
       rcases List.mem_cons.1 ho' with rfl|ho'
       ·rw [hd] at hd';cases hd';exact absurd rfl ht
       ·exact a o' ho' hd'
    ·exact absurd h.symm hb
def agu(P:Program)(keep:Nat→Bool)(e:FuncId→Option Fun)(ops:Array Oper)(sb:Nat→Nat→Bool)(plan:Plan)(fr:F)(h:Hp):Out:=
 jJ P e ops sb fr (fun E h=>jo keep E (fun fr=>.nor fr h) ops.toList fr) plan [] ⟨h.t,bump (fA plan) h.next⟩ ⟨h.t,bump (fA plan) h.next⟩ [] h.next
theorem aj9{op:Op}{vs:List V}{ob:Ob}{mk:Pos→V}(e0:kC P op vs=some (ob,mk)){p i:Pos}(h:mk p=.map i):i=p∧ob=.map []:=by
 cases op<;>simp only [kC] at e0<;>try (cases e0;done)
 case alloc t=>
  split at e0
  ·split at e0
   ·cases e0;cases h
   ·cases e0
  ·cases e0
 case box t x=>
  split at e0
  ·unfold Oo at e0
   split at e0
   ·cases e0;cases h
   ·cases e0
  ·cases e0
 case buildSlice t len ps=>
  split at e0
  ·unfold Ia at e0
   (repeat' split at e0)<;>first|(cases e0;cases h;done)|(cases e0;done)
  ·unfold lU at e0
   (repeat' split at e0)<;>first|(unfold gJ at e0;split at e0<;>first|(cases e0;cases h;done)|(cases e0;done))|(cases e0;done)
 case makeSlice t l c=>
  unfold lV at e0
  (repeat' split at e0)<;>first|(cases e0;cases h;done)|(cases e0;done)
 case makeMap t r=>
  (repeat' split at e0)<;>first|(cases e0;cases h;exact⟨rfl,rfl⟩)|(cases e0;done)
 case convert s d x=>
  unfold nJ at e0
  (repeat' split at e0)<;>first|(cases e0;cases h;done)|(cases e0;done)
theorem JY{T:Tr}(S:Static ops Ed sb G N plan)(hst:∀i c j,(i,c,j)∈phased 0 plan→fF P e ops sb fr T i c j)(h2:(T.I.map (·.1)).Nodup)
  {i j:Nat} {p:Pos} {x y:V} (hI:(i,j,p,x,y)∈T.I) {a:Nat} (hp:(i,.ins a,j)∈phased 0 plan) (hw:Wanted ops T.E i):
  (a,j,p,.map [])∈T.A∧Bef Ed a i:=by
 obtain⟨hpa,hbef,oa,o,t,rest,hoa,hta,ho,hops,hsb⟩:=S.insA i a j hp
 refine⟨?_,hbef⟩
 obtain⟨o',ho',hcase⟩:=hst i _ j hp
 rw [ho] at ho';cases ho'
 rcases hcase with⟨_,vs,v,hsrc,_,p',x',y',rfl,_,_,hI'⟩|⟨⟨g,b,d,hg,hgd,hgv⟩,_,_⟩
 ·have:=Yy h2 hI hI' rfl
  cases this
  rw [hops] at hsrc
  obtain⟨v0,us,hvs,hsu,_⟩:=hsrc
  cases hvs
  have hut:aZ t T.E=some (.map p):=by
   rcases hsu with⟨_,hf⟩|⟨hn,_⟩
   ·exact hf
   ·rw [hsb] at hn;cases hn
  obtain⟨oa',hoa',hca⟩:=hst a .alloc j hpa
  rw [hoa] at hoa';cases hoa'
  rcases hca with⟨_,vs2,v2,_,hd2,ob,mk,p2,hal,hv2,hA⟩|⟨_,hd2,_⟩
  ·have e2:=hd2 t hta
   rw [hut] at e2
   cases e2
   obtain⟨rfl,rfl⟩:=aj9 hal hv2.symm
   exact hA
  ·have e2:=hd2 t hta
   rw [hut] at e2
   cases e2
 ·exfalso
  obtain⟨o',ho',hw⟩:=hw
  rw [ho] at ho';cases ho'
  rcases hw with hw|⟨g',b',d',hw1,hw2,hw3⟩
  ·rw [hg] at hw;cases hw
  ·rw [hg] at hw1;cases hw1
   rw [hgd] at hw2;cases hw2
   rcases hgv with hgv|⟨l,hgv⟩
   ·rw [hgv] at hw3;cases b<;>cases hw3
   ·rw [hgv] at hw3;cases hw3
theorem bG.draw(hm:P.follows .mixedOrders=true)(hE:∀f F,e f=some F→aj P G f F){id:Nat}(hnd:∀o∈ops.toList,∀c,o.op≠ .defer c)(back:∀j i,Edge ops j i→j<i)(S:Static ops (Edge ops) sb G N plan):bG P keep G N (.region id ops true) (agu P keep e ops sb plan):=by
 intro ro n Df fr h M a w hne at_
 refine zS hm eP.abI hnd ?_
 generalize hout:agu P keep e ops sb plan fr h=out at hne
 obtain⟨T,t⟩:=jh hne plan [] _ _ [] [] h.next S.nodup rfl hout
 have A:Made T ops (Edge ops) plan h.next:=by
  refine⟨fun i j p ob hA=>?_,t.a2,t.a3,fun j=>?_,fun i j p x y hI=>?_,t.i2,t.i4⟩
  ·obtain⟨g1,g2,g3,g4,g5⟩:=t.a1 i j p ob hA
   exact⟨g1,g3,g4,g5⟩
  ·by_cases hj:j=0
   ·subst hj
    have hB:T.Bs 0=_:=t.tBase
    rw [hB]
    refine⟨fun x hx=>?_,t.cn⟩
    have:=t.cs x hx
    rw [show([]:List Hp).length=0 from rfl] at this
    rw [this,qW fun y hy hj hyp=>?_]
    ·cases(Hp.get ⟨h.t,bump (fA plan) h.next⟩ x) with
     |none=>rfl
     |some o=>simp [mO]
    ·exfalso
     obtain⟨i',j',p',x',y'⟩:=y
     have hj:j'=0:=hj
     have hyp:p'=x:=hyp
     subst hj;subst hyp
     obtain⟨g1,_,_⟩:=t.i1 _ _ _ _ _ hy
     rcases g1 with⟨_,e2,fs,e3⟩|⟨a,ob,g1⟩
     ·rw [e2] at e3;cases e3
     ·exact hx a ob g1
   ·exact t.ct j (by simp;omega)
  ·obtain⟨_,⟨a,g2⟩,g3⟩:=t.i1 _ _ _ _ _ hI
   obtain⟨k1,k2⟩:=JY S t.steps t.i2 hI g2 g3
   exact⟨a,g2,k1,k2,g3⟩
 have hB0:T.Bs 0=⟨h.t,bump (fA plan) h.next⟩:=t.tBase
 have hbn:(T.Bs 0).next.nat=h.next.nat+fA plan:=by rw [hB0];exact N8 _ _
 have hw:({w with drawn:=w.drawn+1}:World).heap=w.heap:=rfl
 have hr1:Rel G M (T.Bs 0) {w with drawn:=w.drawn+1}:=by
  refine(at_.rel.heap hw).sub (fun i o hi=>?_) (by rw [hbn];omega)
  rw [hB0] at hi;exact hi
 have hx1:Ext M h w M (T.Bs 0) {w with drawn:=w.drawn+1}:=by
  have hx:=Ext.refl at_.rel
  refine⟨hx.le,by rw [hbn];omega,rfl,rfl,rfl,Nat.le_refl _,fun _ _ _=>rfl,fun i o L hi=>?_,fun i _ hi=>?_,fun i o L hi=>?_,hx.none⟩
  ·rw [hB0] at hi;exact hx.own i o L hi
  ·rw [hB0];exact hi
  ·rw [hB0] at hi;exact hx.all i o L hi
 have hL0:∀i,(Array.replicate ops.size false).getD i false=false:=fun i=>by
  rw [Array.getD_eq_getD_getElem?,Array.getElem?_replicate];split<;>rfl
 have I0:Inv T ops (Edge ops) plan keep fr G N Df M h w (Array.replicate ops.size false) M (T.Bs 0) 0 a {w with drawn:=w.drawn+1}:=by
  refine⟨by simp,fun i k _ hk=>?_,Nat.zero_le _,fun i j' _=>?_,hr1,rfl,fun i j' p ob _ hl=>?_,fun _ _=>rfl,fun i j' p ob hA _=>?_,fun i j' p ob hA _=>?_,fun i o d v hl=>?_,fun t' v _ hv=>at_.fr t' v hv,at_.size,at_.plain,hx1⟩
  ·rw [hL0] at hk;cases hk
  ·rw [hL0];simp
  ·rw [hL0] at hl;cases hl
  ·obtain⟨g1,g2,_⟩:=t.a1 i j' p ob hA
   refine⟨?_,by rw [hbn];exact g2⟩
   cases hg:(T.Bs 0).get p with
   |none=>rfl
   |some o'=>
    rw [hB0] at hg
    obtain⟨L,hL,_⟩:=at_.rel.ob p o' hg
    have:=at_.rel.lt_next hL
    omega
  ·obtain⟨g1,g2,_⟩:=t.a1 i j' p ob hA
   exact at_.rel.fresh p g1
  ·rw [hL0] at hl;cases hl
 refine any_ok hE back S A t.steps ?_ ops.size _ M (T.Bs 0) 0 a _ (by unfold left;exact Nat.le_trans List.countP_le_length (by simp)) I0
 intro L M' f j a' w' I hall
 have hfin:=t.out
 simp only [List.length_nil,Nat.zero_add] at hfin
 obtain⟨fr',hk,hfr⟩:=wX hne hfin
 have hj:j=aU plan:=by
  rcases Nat.lt_or_ge j (aU plan) with h1|h1
  ·obtain⟨i2,hp2,hi2⟩:=S.heavyAt j h1
   have:=(I.ph i2 j hp2).1 (hall i2 hi2)
   omega
  ·have:=I.jle;omega
 subst hj
 have hlt:∀{i c j'},(i,c,j')∈phased 0 plan→i<ops.size:=fun{i c j'} hp=>by
  obtain⟨o,ho,_⟩:=t.steps i c j' hp
  exact(Array.getElem?_eq_some_iff.1 ho).1
 have hC:∀x,(T.Cs (aU plan)).get x=f.get x:=fun x=>by
  by_cases hx:∃i ob,(i,aU plan,x,ob)∈T.A
  ·obtain⟨i,ob,hA⟩:=hx
   obtain⟨_,g2,g3,_⟩:=A.a1 _ _ _ _ hA
   rw [g3,I.f1 _ _ _ _ hA (hall i (hlt g2)) (Nat.le_refl _)]
   rw [lD (b:=fun _=>true) (b':=fun k=>L.getD k false) fun y hy _ _=>by
    obtain⟨i2,j2,p2,x2,y2⟩:=y
    obtain⟨a2,k1,_⟩:=A.i1 _ _ _ _ _ hy
    exact(hall i2 (hlt k1)).symm]
  ·rw [(A.ct _).1 x (fun i ob hA=>hx ⟨i,ob,hA⟩)]
   refine(I.f2 x fun i j' ob hA _ hj'=>?_).symm
   obtain⟨_,g2,_⟩:=A.a1 _ _ _ _ hA
   have:=(jc g2).1
   have hje:j'=aU plan:=by omega
   subst hje
   exact hx ⟨i,ob,hA⟩
 have hCn:(T.Cs (aU plan)).next=f.next:=by rw [(A.ct _).2,I.nx]
 rw [←hk]
 refine⟨M',⟨I.rel.congr hC hCn,fun t' v hv=>?_,I.size,I.plain⟩,I.ext.congr hC hCn⟩
 rcases hfr t' v hv with⟨o,ho,hd,hkp,hE'⟩|⟨hno,hold⟩
 ·obtain⟨i,hi,hio⟩:=List.getElem_of_mem ho
  have hi':i<ops.size:=by simpa using hi
  have hoi:ops[i]?=some o:=by rw [Array.getElem?_eq_getElem hi'];rw [←hio];simp
  exact⟨hkp,I.e1 i o t' v (hall i hi') hoi hd hE'⟩
 ·refine I.e2 t' v (fun i o _ ho hd=>?_) hold
  have h1:=hno o (by have:=Array.mem_of_getElem? ho;simpa using this) hd
  have h2:=(at_.fr t' v hold).1
  rw [h1] at h2;cases h2
end
end Go.Vm
namespace Go.Vm
noncomputable section
variable{P:Program}{ops:Array Oper}{G N:Nat}
def aEJ(ms:List Nat)(o:Oper):Nat:=o.after.toList.foldl (fun s e=>match Region.binds .any e with
 |true=>Nat.lor s (Nat.lor (Nat.shiftLeft 1 e.on) (ms.getD e.on 0))
 |false=>s) 0
def jE(ms:List Nat)(i' i:Nat):Bool:=Nat.testBit (ms.getD i 0) i'
def each(ops:Array Oper)(p:Nat→Oper→Bool):Bool:=(List.range ops.size).all fun i=>(match ops[i]? with|some o=>p i o|none=>true)
theorem jb{p:Nat→Oper→Bool}(h:each ops p=true){i:Nat}{o:Oper}(ho:ops[i]?=some o):p i o=true:=by
 simp only [each,List.all_eq_true,List.mem_range] at h
 have:=h i (Array.getElem?_eq_some_iff.1 ho).1
 rw [ho] at this;exact this
def qP(ops:Array Oper)(ms:List Nat):Bool:=each ops fun i o=>Nat.beq (ms.getD i 0) (aEJ ms o)&&o.after.toList.all fun e=>match Region.binds .any e with|true=>Nat.blt e.on i|false=>true
theorem sO{ms:List Nat}(h:qP ops ms=true){j i:Nat}(he:Edge ops j i):j<i:=by
 obtain⟨o,e,ho,hm,hb,rfl⟩:=he
 have:=jb h ho
 simp only [Bool.and_eq_true,List.all_eq_true] at this
 have:=this.2 e (by simpa using hm)
 rw [hb] at this
 simpa [Nat.blt_eq] using this
theorem F7(ms:List Nat):∀(l:List _root_.Go.Edge) (s j:Nat),Nat.testBit (l.foldl (fun s e=>match Region.binds .any e with
 |true=>Nat.lor s (Nat.lor (Nat.shiftLeft 1 e.on) (ms.getD e.on 0))
 |false=>s) s) j=true→Nat.testBit s j=true∨∃e∈l,Region.binds .any e=true∧(e.on=j∨Nat.testBit (ms.getD e.on 0) j=true)
 | [],s,j,h=>.inl h
 |e::l,s,j,h=>by
  rcases F7 ms l _ j h with h|⟨e',he',hb,h⟩
  ·simp only [] at h
   split at h
   ·rename_i hb
    rw [show ∀a b,Nat.lor a b=a|||b from fun _ _=>rfl,show ∀a b,Nat.lor a b=a|||b from fun _ _=>rfl,Nat.testBit_or,Nat.testBit_or] at h
    simp only [Bool.or_eq_true] at h
    rcases h with h|h|h
    ·exact .inl h
    ·refine .inr ⟨e,by simp,hb,.inl ?_⟩
     rw [show Nat.shiftLeft 1 e.on=1<<<e.on from rfl,Nat.one_shiftLeft,Nat.testBit_two_pow] at h
     simpa using h
    ·exact .inr ⟨e,by simp,hb,.inr h⟩
   ·exact .inl h
  ·exact .inr ⟨e',by simp [he'],hb,h⟩
theorem fQ{ms:List Nat}(h:qP ops ms=true):∀{i j:Nat},i<ops.size→jE ms j i=true→Bef (Edge ops) j i:=by
 intro i
 induction i using Nat.strongRecOn with
 |_ i ih=>
  intro j hi hs
  have ho:=Array.getElem?_eq_getElem hi
  have h1:=jb h ho
  simp only [Bool.and_eq_true] at h1
  unfold jE at hs
  rw [Nat.eq_of_beq_eq_true h1.1] at hs
  rcases F7 ms _ 0 j hs with h2|⟨e,he,hb,h2⟩
  ·simp at h2
  ·have hed:Edge ops e.on i:=⟨_,e,ho,by simpa using he,hb,rfl⟩
   have hlt:=sO h hed
   rcases h2 with h2|h2
   ·subst h2;exact .one hed
   ·exact .step (ih e.on hlt (by omega) h2) hed
def iC:Cls→Bool
 | .heavy=>true
 |_=>false
def nodupB:List Nat→Bool
 | []=>true
 |x::l=>l.all (fun y=>!Nat.beq x y)&&nodupB l
def gY(sb:Nat→Nat→Bool)(x y:Nat×Cls×Nat):Bool:=match iC y.2.1 with
 |false=>true
 |true=>(match x.2.1 with
  | .heavy=>(match Nat.blt x.2.2 y.2.2 with
   |true=>sb x.1 y.1
   |false=>(match Nat.beq x.2.2 y.2.2 with|true=>Nat.beq x.1 y.1|false=>true))
  | .alloc=>(match Nat.ble x.2.2 y.2.2 with|true=>sb x.1 y.1|false=>true)
  | .read n=>(match Nat.ble x.2.2 y.2.2 with
   |true=>sb x.1 y.1
   |false=>(match Nat.blt (y.2.2+n) x.2.2 with|true=>sb y.1 x.1|false=>true))
  | .own _=>(match Nat.ble x.2.2 y.2.2 with|true=>sb x.1 y.1|false=>true)
  | .ins _=>(match Nat.ble x.2.2 y.2.2 with|true=>sb x.1 y.1|false=>true)
  | .pure=>true)
def ownB(ops:Array Oper)(sb:Nat→Nat→Bool)(pl:List (Nat×Cls×Nat))(x:Nat×Cls×Nat):Bool:=match x.2.1 with
 | .own a=>(match ops[a]?,ops[x.1]? with
  |some oa,some o=>(match oa.dst,o.op.operands.toList with
   |some t,[.tmp u]=>Nat.beq t u&&(lM ops sb x.1 t&&(sb a x.1&&pl.any fun y=>(match y.2.1 with| .alloc=>Nat.beq y.1 a&&Nat.beq y.2.2 x.2.2|_=>false)))
   |_,_=>false)
  |_,_=>false)
 |_=>true
def abW(ops:Array Oper)(sb:Nat→Nat→Bool)(pl:List (Nat×Cls×Nat))(x:Nat×Cls×Nat):Bool:=match x.2.1 with
 | .ins a=>(match ops[a]?,ops[x.1]? with
  |some oa,some o=>(match oa.dst,o.op.operands.toList with
   |some t,.tmp u::_=>Nat.beq t u&&(lM ops sb x.1 t&&(sb a x.1&&pl.any fun y=>(match y.2.1 with| .alloc=>Nat.beq y.1 a&&Nat.beq y.2.2 x.2.2|_=>false)))
   |_,_=>false)
  |_,_=>false)
 |_=>true
def xq(o:Oper)(t:Nat):Bool:=match o.dst with|some d=>Nat.beq d t|none=>false
def qG(ops:Array Oper)(ms:List Nat)(G N:Nat)(plan:Plan):Bool:=
 qP ops ms&&(nodupB (plan.map (·.1))&&((List.range ops.size).all (fun i=>(plan.map (·.1)).any (Nat.beq i))&&(plan.all (fun x=>Nat.blt x.1 ops.size)&&
  ((phased 0 plan).all (fun x=>(phased 0 plan).all (gY (jE ms) x))&&
  (each ops (fun i o=>match o.guard with|some (g,_)=>jE ms g i|none=>true)&&
  (each ops (fun i o=>match o.dst with|some t=>each ops (fun i' o'=>match xq o' t with|true=>Nat.beq i i'|false=>true)|none=>true)&&
  (each ops (fun i o=>o.op.operands.toList.all fun x=>match x with
   | .tmp t=>(match lM ops (jE ms) i t with
    |true=>true
    |false=>each ops fun i' o'=>(match xq o' t with|true=>Nat.beq i i'||jE ms i i'|false=>true))
   |_=>true)&&
  (ops.toList.all (iM G N)&&((phased 0 plan).all (ownB ops (jE ms) (phased 0 plan))&&(phased 0 plan).all (abW ops (jE ms) (phased 0 plan)))))))))))
theorem vI:∀{l:List Nat},nodupB l=true→l.Nodup
 | [],_=>List.nodup_nil
 |x::l,h=>by
  simp only [nodupB,Bool.and_eq_true,List.all_eq_true,Bool.not_eq_true'] at h
  refine List.nodup_cons.2 ⟨fun hm=>?_,vI h.2⟩
  have:=h.1 x hm
  exact absurd rfl (Nat.ne_of_beq_eq_false this)
theorem jZ{j:Nat}:∀{j₀:Nat} {l:Plan},j₀≤j→j<j₀+aU l→∃i,(i,.heavy,j)∈phased j₀ l
 |j₀,[],h1,h2=>by simp [aU] at h2;omega
 |j₀,(i,c)::l,h1,h2=>by
  cases c with
  |heavy=>
   by_cases e:j=j₀
   ·subst e;exact⟨i,by simp [phased]⟩
   ·obtain⟨i',h⟩:=jZ (j:=j) (j₀:=j₀+1) (l:=l) (by omega) (by simp only [aU] at h2;omega)
    exact⟨i',List.mem_cons_of_mem _ h⟩
  |pure=>
   obtain⟨i',h⟩:=jZ (j:=j) (j₀:=j₀) (l:=l) h1 (by simpa only [aU] using h2)
   exact⟨i',List.mem_cons_of_mem _ h⟩
  |read n=>
   obtain⟨i',h⟩:=jZ (j:=j) (j₀:=j₀) (l:=l) h1 (by simpa only [aU] using h2)
   exact⟨i',List.mem_cons_of_mem _ h⟩
  |alloc=>
   obtain⟨i',h⟩:=jZ (j:=j) (j₀:=j₀) (l:=l) h1 (by simpa only [aU] using h2)
   exact⟨i',List.mem_cons_of_mem _ h⟩
  |own a=>
   obtain⟨i',h⟩:=jZ (j:=j) (j₀:=j₀) (l:=l) h1 (by simpa only [aU] using h2)
   exact⟨i',List.mem_cons_of_mem _ h⟩
  |ins a=>
   obtain⟨i',h⟩:=jZ (j:=j) (j₀:=j₀) (l:=l) h1 (by simpa only [aU] using h2)
   exact⟨i',List.mem_cons_of_mem _ h⟩
theorem iD{i:Nat}:∀{j₀:Nat} {l:Plan},i∈l.map (·.1)→∃c j,(i,c,j)∈phased j₀ l
 |j₀,(i',c)::l,h=>by
  rw [List.map_cons] at h
  rcases List.mem_cons.1 h with h1|h1
  ·cases h1;exact⟨c,j₀,by simp [phased]⟩
  ·cases c with
   |heavy=>obtain⟨c',j,h⟩:=iD (j₀:=j₀+1) h1;exact⟨c',j,List.mem_cons_of_mem _ h⟩
   |pure=>obtain⟨c',j,h⟩:=iD (j₀:=j₀) h1;exact⟨c',j,List.mem_cons_of_mem _ h⟩
   |read n=>obtain⟨c',j,h⟩:=iD (j₀:=j₀) h1;exact⟨c',j,List.mem_cons_of_mem _ h⟩
   |alloc=>obtain⟨c',j,h⟩:=iD (j₀:=j₀) h1;exact⟨c',j,List.mem_cons_of_mem _ h⟩
   |own a=>obtain⟨c',j,h⟩:=iD (j₀:=j₀) h1;exact⟨c',j,List.mem_cons_of_mem _ h⟩
   |ins a=>obtain⟨c',j,h⟩:=iD (j₀:=j₀) h1;exact⟨c',j,List.mem_cons_of_mem _ h⟩
theorem tK{o:Oper}{t:Nat}(h:o.dst=some t):xq o t=true:=by simp [xq,h]
theorem FH{ms:List Nat}{plan:Plan}(h:qG ops ms G N plan=true):Static ops (Edge ops) (jE ms) G N plan:=by
 simp only [qG,Bool.and_eq_true] at h
 obtain⟨h1,h2,h3,h4,h5,h6,h7,h8,h9,h10,h11⟩:=h
 have hlt:∀{i c j},(i,c,j)∈phased 0 plan→i<ops.size:=fun{i c j} hm=>by
  obtain⟨⟨i',c'⟩,hm',rfl⟩:=List.mem_map.1 (jG hm)
  have:=List.all_eq_true.1 h4 _ hm'
  simpa [Nat.blt_eq] using this
 have pr:∀x y,x∈phased 0 plan→y∈phased 0 plan→gY (jE ms) x y=true:=fun x y hx hy=>
  List.all_eq_true.1 (List.all_eq_true.1 h5 x hx) y hy
 refine⟨fun i hi=>?_,vI h2,fun j hj=>?_,fun i j i' j' a b hl=>?_,fun i i' j a b=>?_,fun i j i' j' a b hl=>?_,fun i n j i' j' a b hl=>?_,fun i n j i' j' a b hl=>?_,fun i n j i' j' a b hl=>?_,fun i x j hm=>?_,fun i n j i' j' a b hl=>?_,fun i x j hm=>?_,
  fun i o g b ho hg=>?_,fun i i' o o' t ho ho' hd hd'=>?_,fun i t hi hs=>?_,fun i o t ho hx hs i' o' ho' hd=>?_,fun o ho=>List.all_eq_true.1 h9 o ho⟩
 ·have:=List.all_eq_true.1 h3 i (List.mem_range.2 hi)
  rw [List.any_eq_true] at this
  obtain⟨k,hk,hb⟩:=this
  rw [Nat.eq_of_beq_eq_true hb]
  exact iD hk
 ·obtain⟨i,hi⟩:=jZ (j₀:=0) (l:=plan) (Nat.zero_le j) (by omega)
  exact⟨i,hi,hlt hi⟩
 ·have:=pr _ _ a b
  simp only [gY,iC,show Nat.blt j j'=true from by simpa [Nat.blt_eq] using hl] at this
  exact fQ h1 (hlt b) this
 ·have:=pr _ _ a b
  have hjj:Nat.blt j j=false:=by
   cases hb:Nat.blt j j with
   |false=>rfl
   |true=>have:=Nat.le_of_ble_eq_true hb;omega
  simp only [gY,iC,hjj,show Nat.beq j j=true from Nat.beq_refl j] at this
  exact Nat.eq_of_beq_eq_true this
 ·have:=pr _ _ a b
  simp only [gY,iC,show Nat.ble j j'=true from Nat.ble_eq_true_of_le hl] at this
  exact fQ h1 (hlt b) this
 ·have:=pr _ _ a b
  simp only [gY,iC,show Nat.ble j j'=true from Nat.ble_eq_true_of_le hl] at this
  exact fQ h1 (hlt b) this
 ·have:=pr _ _ a b
  have hn:Nat.ble j j'=false:=by
   cases hb:Nat.ble j j' with
   |false=>rfl
   |true=>have:=Nat.le_of_ble_eq_true hb;omega
  simp only [gY,iC,hn,show Nat.blt (j'+n) j=true from by simpa [Nat.blt_eq] using hl] at this
  exact fQ h1 (hlt a) this
 ·have:=pr _ _ a b
  simp only [gY,iC,show Nat.ble j j'=true from Nat.ble_eq_true_of_le hl] at this
  exact fQ h1 (hlt b) this
 ·have:=List.all_eq_true.1 h10 _ hm
  unfold ownB at this
  simp only [] at this
  split at this
  ·rename_i oa o hoa ho
   split at this
   ·rename_i t u hta hops
    simp only [Bool.and_eq_true] at this
    obtain⟨e1,e2,e3,e4⟩:=this
    have e1:=Nat.eq_of_beq_eq_true e1
    subst e1
    rw [List.any_eq_true] at e4
    obtain⟨⟨y1,y2,y3⟩,hy,e4⟩:=e4
    simp only [] at e4
    split at e4
    ·simp only [Bool.and_eq_true] at e4
     have h1y:=Nat.eq_of_beq_eq_true e4.1
     have h2y:=Nat.eq_of_beq_eq_true e4.2
     subst h1y
     subst h2y
     exact⟨hy,fQ h1 (hlt hm) e3,oa,o,t,hoa,hta,ho,hops,e2⟩
    ·cases e4
   ·cases this
  ·cases this
 ·have:=pr _ _ a b
  simp only [gY,iC,show Nat.ble j j'=true from Nat.ble_eq_true_of_le hl] at this
  exact fQ h1 (hlt b) this
 ·have:=List.all_eq_true.1 h11 _ hm
  unfold abW at this
  simp only [] at this
  split at this
  ·rename_i oa o hoa ho
   split at this
   ·rename_i t u rest hta hops
    simp only [Bool.and_eq_true] at this
    obtain⟨e1,e2,e3,e4⟩:=this
    have e1:=Nat.eq_of_beq_eq_true e1
    subst e1
    rw [List.any_eq_true] at e4
    obtain⟨⟨y1,y2,y3⟩,hy,e4⟩:=e4
    simp only [] at e4
    split at e4
    ·simp only [Bool.and_eq_true] at e4
     have h1y:=Nat.eq_of_beq_eq_true e4.1
     have h2y:=Nat.eq_of_beq_eq_true e4.2
     subst h1y
     subst h2y
     exact⟨hy,fQ h1 (hlt hm) e3,oa,o,t,rest,hoa,hta,ho,hops,e2⟩
    ·cases e4
   ·cases this
  ·cases this
 ·have:=jb h6 ho
  simp only [hg] at this
  exact fQ h1 (Array.getElem?_eq_some_iff.1 ho).1 this
 ·have:=jb h7 ho
  simp only [hd] at this
  have:=jb this ho'
  simp only [tK hd'] at this
  exact Nat.eq_of_beq_eq_true this
 ·unfold lM at hs
  rw [List.any_eq_true] at hs
  obtain⟨i',hi',hs⟩:=hs
  split at hs
  ·rename_i o' ho'
   split at hs
   ·rename_i d hd
    split at hs
    ·rename_i hb
     exact⟨i',o',ho',by rw [hd,Nat.eq_of_beq_eq_true hb],fQ h1 hi hs⟩
    ·cases hs
   ·cases hs
  ·cases hs
 ·have:=jb h8 ho
  have:=List.all_eq_true.1 this _ hx
  simp only [hs] at this
  have:=jb this ho'
  simp only [tK hd,Bool.or_eq_true] at this
  rcases this with h|h
  ·exact .inl (Nat.eq_of_beq_eq_true h)
  ·exact .inr (fQ h1 (Array.getElem?_eq_some_iff.1 ho').1 h)
theorem xX{ms:List Nat}{plan:Plan}(h:qG ops ms G N plan=true):∀j i,Edge ops j i→j<i:=by
 unfold qG at h
 rw [Bool.and_eq_true] at h
 exact fun j i he=>sO h.1 he
end
end Go.Vm
namespace Go.Vm
noncomputable section
variable{P:Program}{G N:Nat}{keep:Nat→Bool}{e:FuncId→Option Fun}
abbrev aJ:=Nat→Option (List Nat×Plan)
end
end Go.Vm
