/- Part of the value machine, or of a walk by it: lemmas that the claim's last text uses. No conditions. -/
import Derived.Test.YtpgppmioigacoaaGreatDoorSlAB
import Derived.Laws.IdiomStrings
import Derived.Laws.BytesString
import Derived.Laws.MakeOwn
import Derived.Great.BuildSlice
set_option linter.unusedVariables false
set_option linter.unusedSimpArgs false
set_option linter.unnecessarySimpa false
namespace Go.Vm
noncomputable section
variable{P:Program}{G:Nat}{M:Mp}{h h':Hp}{w:World}{r:V}
def u8s(s:List Nat):List V:=s.map fun b=>.int .u8 (.ofNat b)
def xw(sz:Nat)(x:V)(h:Hp)(k:Nat→List V→R V):R V:=
 match x with
 | .aG=>k 0 []
 | .emp=>k 0 []
 | .slice j p n _=>dQ h j fun _ cs=>(match gB (n*sz) (fG p cs) with|some l=>k n l|none=>.bad)
 | .str s=>(match Nat.beq sz 1 with|true=>k s.length (u8s s)|false=>.bad)
 |_=>.bad
def pI(el:TypeId)(sz bt n:Nat)(cs:List V)(h h0:Hp):R V:=
 match Nat.ble (Nat.mul n bt) 140737488355328 with
 |true=>.ok (.slice h.next 0 n (.un sz)) (h0.new (.cells (.rw el false) cs))
 |false=>.bad
def aIm(sz bt:Nat)(i:Pos)(o len need:Nat)(new cs:List V)(h:Hp):R V:=match h.get i with
 |some ob=>(match ob with
  | .bytes _=>(match gB (len*sz) (fG o cs) with
   |some old=>(match fG (len*sz) (fG o cs) with
    | []=>(match Nat.ble (Nat.mul need bt) 140737488355328 with
     |true=>.ok (.slice h.next 0 need (.un sz)) ((h.put i none).new (.bytes (old++new)))
     |false=>.bad)
    |_::_=>.bad)
   |none=>.bad)
  |_=>.bad)
 |none=>.bad
def bT(el:TypeId)(sz bt:Nat)(s x:V)(h:Hp):R V:=
 xw sz x h fun n new=>match n with
 |0=>(match s with
  | .aG=>.ok .aG h
  | .emp=>.ok .emp h
  | .slice i o len cap=>.ok (.slice i o len cap) h
  |_=>.bad)
 |m+1=>(match s with
  | .aG=>pI el sz bt (m+1) new h h
  | .slice i o len cap=>dQ h i fun wr cs=>eu (len+(m+1)) fun need=>(match cap with
   | .kn c=>(match Nat.ble need c with
    |true=>(match wr,jk (o+len*sz) new cs with
     | .rw t f,some cs'=>.ok (.slice i o need (.kn c)) (h.put i (some (.cells (.rw t f) cs')))
     |_,_=>.bad)
    |false=>(match gB (len*sz) (fG o cs) with
     |some old=>pI el sz bt need (old++new) h h
     |none=>.bad))
   | .un u=>(match wr,Nat.beq u sz with
    | .rw t f,true=>(match Nat.beq t el with
     |true=>(match gB (len*sz) (fG o cs) with
      |none=>.bad
      |some old=>(match fG (len*sz) (fG o cs) with
       | []=>pI el sz bt need (old++new) h (h.put i none)
       |_::_=>(match jk (o+len*sz) new cs with
        |some cs'=>.ok (.slice i o need (.un u)) (h.put i (some (.cells (.rw t f) cs')))
        |none=>.bad)))
     |false=>.bad)
    | .ro,true=>aIm sz bt i o len need new cs h
    |_,_=>.bad))
  |_=>.bad)
theorem asX{t t2 ty el:TypeId}{d2:TypeDesc}{ti:TypeInfo}(ht:P.underlying t=some (.slice el))(ht2:P.underlying t2=some d2)(hd2:∀k,d2≠ .int k)(hti:P.info? el=some ti)
  {base:Option Addr} {n cap m:Nat} {x:Value} (hm:(Builtin.lenOf x).run P w=.ok m w) {news:List Value} (hnews:(Builtin.firstCells ti.size m x).run P w=.ok news.toArray w) (hfit:n+m≤cap):
  (Builtin.append_ #[t,t2] ty #[.slice base n cap,x]).run P w=
   (match base with|some a=>((storeCells (a.add (n*ti.size)) news).run P w).andThen fun _ w'=>.ok (.slice base (n+m) cap) w'|none=>.ok (.slice base (n+m) cap) w):=by
 cases base<;>simp [Builtin.append_,run_underlying ht,run_underlying ht2,sizeOf,typeInfo,hti,hm,hfit,hnews]
theorem apD{t t2 ty el:TypeId}{d2:TypeDesc}{ti:TypeInfo}{z:Value}(ht:P.underlying t=some (.slice el))(ht2:P.underlying t2=some d2)(hd2:∀k,d2≠ .int k)(hti:P.info? el=some ti)(hz:ti.zero=some z)
  {base:Option Addr} {n cap m:Nat} {x:Value} (hm:(Builtin.lenOf x).run P w=.ok m w) {news olds:List Value} (hnews:(Builtin.firstCells ti.size m x).run P w.drew=.ok news.toArray w.drew)
  (holds:(Builtin.firstCells ti.size n (.slice base n cap)).run P w.drew=.ok olds.toArray w.drew) (hfit:cap<n+m) (hb:(n+m)*ti.bytes≤140737488355328) (hb0:0<ti.bytes):
  (Builtin.append_ #[t,t2] ty #[.slice base n cap,x]).run P w=
   .ok (.slice (some ⟨w.heap.size,0,none⟩) (n+m) (grownCap w (n+m) cap el)) (w.drew.alloc (.cells (olds.toArray++news.toArray++Builtin.zeroCells z.cells (grownCap w (n+m) cap el - (n+m))) el)):=by
 have hn:¬(n+m≤cap):=by omega
 have hle:n+m≤(n+m)*ti.bytes:=Nat.le_mul_of_pos_right _ hb0
 have h63':¬(9223372036854775807<((n:Int)+(m:Int))):=by omega
 have h48:=growslice_fits (bytes:=ti.bytes) hfit hb
 have h48':¬(281474976710656<Builtin.nextslicecap (n+m) cap*ti.bytes):=by omega
 simp [Builtin.append_,run_underlying ht,run_underlying ht2,sizeOf,typeInfo,zeroValue,hti,hz,hm,hn,h63',h48',Question.forced,hnews,holds,newRow,grownCap]
 congr 2
 apply Array.ext'
 simp [List.append_assoc]
theorem akn(s:ByteArray):(Builtin.lenOf (.string s)).run P w=.ok s.size w:=rfl
theorem ait{sz:Nat}{x:V}{c:Value}{k:Nat→List V→R V}(hr:Rel G M h w)(hx:Rp M x c)(e:xw sz x h k=.ok r h'):
  ∃(n:Nat) (new:List V) (news:List Value),k n new=.ok r h'∧(Builtin.lenOf c).run P w=.ok n w∧bZ M new news∧new.length=n*sz∧(∀y∈news,scalar y=true)∧
   ∀w',w'.heap=w.heap→(Builtin.firstCells sz n c).run P w'=.ok news.toArray w':=by
 unfold xw at e
 split at e
 ·cases hx.aG
  exact⟨0,[],[],e,rfl,rfl,by simp,by simp,fun w' _=>by simp [Builtin.firstCells]⟩
 ·obtain⟨a,k',rfl⟩:=hx.emp
  exact⟨0,[],[],e,rfl,rfl,by simp,by simp,fun w' _=>by simp [Builtin.firstCells,loadCells,loadCellsFrom]⟩
 ·rename_i j p n cap
  obtain⟨L,m,hL,_,rfl⟩:=hx.slice
  obtain⟨wr,cs,hi,e1⟩:=gK e
  split at e1
  ·rename_i l hl
   obtain⟨xs,hxl,hlen,hs,hc⟩:=hr.cells hi hL hl
   have hll:l.length=n*sz:=by rw [←hxl.length];exact hlen
   refine⟨n,l,xs,e1,rfl,hxl,hll,hs,fun w' hw=>?_⟩
   exact run_firstCells_some w' sz n (L.at p) n m xs hlen (fun j v hj=>by
    rw [←hc j v hj];simp [World.cell?,hw])
  ·cases e1
 ·rename_i s
  split at e
  ·rename_i h1
   have h1':sz=1:=Nat.eq_of_beq_eq_true h1
   subst h1'
   obtain⟨hs,rfl⟩:=hx.str
   refine⟨s.length,u8s s,s.map fun b=>.int .u8 (.ofNat b),e,by rw [akn,lT],?_,by simp [u8s],?_,fun w' _=>?_⟩
   ·refine bZ.mk (by simp [u8s]) (fun i v hi=>?_)
    simp only [u8s,List.getElem?_map] at hi⊢
    cases hsi:s[i]? with
    |none=>rw [hsi] at hi;cases hi
    |some b=>rw [hsi] at hi;cases hi;exact⟨_,rfl,iq M _ _⟩
   ·intro y hy
    obtain⟨b,_,rfl⟩:=List.mem_map.1 hy
    rfl
   ·simp only [Builtin.firstCells]
    show Result.ok _ _=_
    congr 1
    apply Array.ext'
    have:((bts s).extract 0 s.length).data.toList=s.map UInt8.ofNat:=by
     rw [aiB];simp [bts]
    simp only [Array.toList_map,this,List.map_map]
    apply List.map_congr_left
    intro b hb
    simp [Ul (hs b hb)]
  ·cases e
 ·cases e
theorem Rel.aJh(hr:Rel G M h w){i:Pos}{o0:Ob}{L:Loc}(hi:h.get i=some o0)(hown:o0.own=true)(hL:M i=some L)(o:Nat)(nb:Ob){w':World}
  (hs:w'.heap.size=w.heap.size) (hoth:∀k,k≠L.blk→w'.heap[k]?=w.heap[k]?) (hos:w'.os=w.os) (ht:w'.tape=w.tape) (hout:w'.output=w.output)
  (hob:∀N:Mp,M.le N→jZ N ⟨L.blk,L.off+o,L.size⟩ w' nb):
  Rel G (M.add h.next ⟨L.blk,L.off+o,L.size⟩) ((h.put i none).new nb) w'∧Ext M h w (M.add h.next ⟨L.blk,L.off+o,L.size⟩) ((h.put i none).new nb) w':=by
 have hnone:M h.next=none:=hr.fresh _ (Nat.le_refl _)
 have hle:=Mp.UG hnone ⟨L.blk,L.off+o,L.size⟩
 have hin:i≠h.next:=hr.ne_next hL
 have hnx:(h.put i none).next=h.next:=rfl
 have get:∀{j:Pos} {p:Ob},j≠h.next→((h.put i none).new nb).get j=some p→j≠i∧h.get j=some p:=by
  intro j p hj hg
  rw [Hp.jy _ (by rw [hnx];exact hj)] at hg
  by_cases e:j=i
  ·subst e;rw [h.dW] at hg;cases hg
  ·rw [h.cZ e] at hg;exact⟨e,hg⟩
 have getn:((h.put i none).new nb).get h.next=some nb:=Hp.qP (h.put i none) _
 have keep:∀{j:Pos} {p:Ob} {K:Loc},j≠i→h.get j=some p→M j=some K→K.blk≠L.blk:=fun hj hg hK e=>
  hr.sep i _ _ _ L _ (Ne.symm hj) hi hg hown hL hK e.symm
 refine⟨⟨fun j p hg=>?_,fun j hj=>?_,fun a b p q A B hn ha hb hp hA hB=>?_,fun g hg=>?_⟩,⟨hle,?_,hos,ht,hout,by omega,fun k hk hno=>hoth k (fun e=>hno i _ L hi hown hL e.symm),fun j p K hg hp hK=>?_,fun j hj hn=>?_,fun j p K hg hK=>?_,fun j hj hn=>?_⟩⟩
 ·by_cases e:j=h.next
  ·subst e
   rw [getn] at hg;cases hg
   exact⟨_,M.fE _ _,hob _ hle⟩
  ·obtain⟨hji,hg'⟩:=get e hg
   obtain⟨K,hK,hrep⟩:=hr.ob j p hg'
   exact⟨K,by rw [M.gJ e];exact hK,(hrep.of_block (hoth _ (keep hji hg' hK))).mono hle⟩
 ·have hs':((h.put i none).new nb).next.nat=h.next.nat+1:=Pos.eY _
  rw [hs'] at hj
  have e:j≠h.next:=fun e=>by rw [e] at hj;omega
  rw [M.gJ e]
  exact hr.fresh j (by omega)
 ·by_cases ea:a=h.next
  ·subst ea
   rw [M.fE] at hA;cases hA
   have eb:b≠h.next:=fun e=>hn e.symm
   obtain⟨hbi,hb'⟩:=get eb hb
   rw [M.gJ eb] at hB
   exact fun e=>keep hbi hb' hB e.symm
  ·obtain⟨hai,ha'⟩:=get ea ha
   rw [M.gJ ea] at hA
   by_cases eb:b=h.next
   ·subst eb
    rw [M.fE] at hB;cases hB
    exact keep hai ha' hA
   ·obtain⟨hbi,hb'⟩:=get eb hb
    rw [M.gJ eb] at hB
    exact hr.sep a b p q A B hn ha' hb' hp hA hB
 ·obtain⟨n',hg'⟩:=hr.gl g hg
  exact⟨n',hle _ _ hg'⟩
 ·show h.next.nat≤h.next.succ.nat
  rw [Pos.eY];omega
 ·by_cases e:j=h.next
  ·subst e
   rw [M.fE] at hK;cases hK
   exact .inr ⟨i,_,L,hi,hown,hL,rfl⟩
  ·obtain⟨hji,hg'⟩:=get e hg
   rw [M.gJ e] at hK
   exact .inr ⟨j,p,K,hg',hp,hK,rfl⟩
 ·have e:j≠h.next:=fun e=>by rw [e] at hj;omega
  rw [Hp.jy _ (by rw [hnx];exact e)]
  by_cases e2:j=i
  ·subst e2;exact h.dW _ _
  ·rw [h.cZ e2];exact hn
 ·by_cases e:j=h.next
  ·subst e
   rw [M.fE] at hK;cases hK
   exact .inr ⟨i,_,L,hi,hL,rfl⟩
  ·obtain⟨hji,hg'⟩:=get e hg
   rw [M.gJ e] at hK
   exact .inr ⟨j,p,K,hg',hK,rfl⟩
 ·have e:j≠h.next:=fun e=>by rw [e] at hj;omega
  rw [M.gJ e];exact hn
theorem Rel.over(hr:Rel G M h w){i:Pos}{cs:List V}{L:Loc}{t t':TypeId}{f f':Bool}(hi:h.get i=some (.cells (.rw t f) cs))(hL:M i=some L)(o:Nat)(vs:List V){w':World}
  (hs:w'.heap.size=w.heap.size) (hoth:∀k,k≠L.blk→w'.heap[k]?=w.heap[k]?) (hos:w'.os=w.os) (ht:w'.tape=w.tape) (hout:w'.output=w.output)
  (hob:∀N:Mp,M.le N→jZ N ⟨L.blk,L.off+o,L.size⟩ w' (.cells (.rw t' f') vs)):
  Rel G (M.add h.next ⟨L.blk,L.off+o,L.size⟩) ((h.put i none).new (.cells (.rw t' f') vs)) w'∧Ext M h w (M.add h.next ⟨L.blk,L.off+o,L.size⟩) ((h.put i none).new (.cells (.rw t' f') vs)) w':=
 hr.aJh hi rfl hL o _ hs hoth hos ht hout hob
theorem auy{b a:Nat}{c:Array Value}{el:TypeId}{fr:Nat×Nat}{xs:List Value}(hb:w.heap[b]?=some (.cells c el fr))(hin:∀j,j<xs.length→a+j<c.size)
  (hfr:∀j,j<xs.length→¬(fr.1≤a+j∧a+j<fr.2)) (h1:∀x∈xs,scalar x=true):
  ∃w' c',(storeCells ⟨b,a,none⟩ xs).run P w=.ok () w'∧w'.heap[b]?=some (.cells c' el fr)∧c'.size=c.size∧(∀k,c'[k]?=if a≤k∧k<a+xs.length then xs[k - a]? else c[k]?)∧
   (∀k,k≠b→w'.heap[k]?=w.heap[k]?)∧w'.heap.size=w.heap.size∧w'.os=w.os∧w'.tape=w.tape∧w'.output=w.output:=by
 have hrun:=run_storeCells_cells (P:=P) b a xs 0 w
  (fun j hj=>by
   have:=hin j hj
   simp [World.cell?,hb,this])
  (fun j hj=>by
   have:=hfr j hj
   simp [World.frozen?,hb];omega)
  (fun v hv=>Sr (h1 v hv))
 simp only [Nat.add_zero] at hrun
 have key:∀(xs:List Value) (a:Nat) (c:Array Value) (w:World),w.heap[b]?=some (.cells c el fr)→(∀j,j<xs.length→a+j<c.size)→
   ∃c',(w.setCells b a xs).heap[b]?=some (.cells c' el fr)∧c'.size=c.size∧(∀k,c'[k]?=if a≤k∧k<a+xs.length then xs[k - a]? else c[k]?):=by
  intro xs
  induction xs with
  |nil=>intro a c w hw _;exact⟨c,hw,rfl,fun k=>by rw [if_neg (by simp<;>omega)]⟩
  |cons x xs ih=>
   intro a c w hw hlt
   have hw':(w.setCell ⟨b,a,none⟩ x).heap[b]?=some (.cells (c.setIfInBounds a x) el fr):=by
    simp [World.setCell,Array.getElem?_modify,hw]
   obtain⟨c',h1,h2,h3⟩:=ih (a+1) (c.setIfInBounds a x) _ hw' (fun j hj=>by have:=hlt (j+1) (by simp;omega);simp;omega)
   refine⟨c',h1,by simpa using h2,fun k=>?_⟩
   rw [h3 k]
   have ha:=hlt 0 (by simp)
   by_cases e:k=a
   ·subst e
    rw [if_neg (by omega),if_pos (by simp)]
    rw [Nat.sub_self,Array.getElem?_setIfInBounds_self_of_lt (by simpa using ha)]
    rfl
   ·by_cases hk:a+1≤k∧k<a+1+xs.length
    ·rw [if_pos hk,if_pos (by simp;omega),show k - a=(k - (a+1))+1 from by omega]
     simp
    ·rw [if_neg hk,if_neg (by simp at hk⊢;omega),Array.getElem?_setIfInBounds_ne (by omega)]
 have hoth:∀(xs:List Value) (a:Nat) (w:World) (k:Nat),k≠b→(w.setCells b a xs).heap[k]?=w.heap[k]?:=by
  intro xs
  induction xs with
  |nil=>intros;rfl
  |cons x xs ih=>intro a w k hk;rw [World.setCells,ih _ _ _ hk];exact Go.RowKit.Below.heap_setCell _ _ _ _ hk
 have hrest:∀(xs:List Value) (a:Nat) (w:World),(w.setCells b a xs).heap.size=w.heap.size∧(w.setCells b a xs).os=w.os∧(w.setCells b a xs).tape=w.tape∧(w.setCells b a xs).output=w.output:=by
  intro xs
  induction xs with
  |nil=>intros;exact⟨rfl,rfl,rfl,rfl⟩
  |cons x xs ih=>intro a w;obtain⟨h1,h2,h3,h4⟩:=ih (a+1) (w.setCell ⟨b,a,none⟩ x);exact⟨by rw [World.setCells,h1];simp [World.setCell],h2,h3,h4⟩
 obtain⟨c',k1,k2,k3⟩:=key xs a c w hb hin
 obtain⟨g1,g2,g3,g4⟩:=hrest xs a w
 exact⟨_,c',hrun,k1,k2,k3,fun k hk=>hoth xs a w k hk,g1,g2,g3,g4⟩
structure ElemOk (P:Program) (el:TypeId) (ti:TypeInfo) (z:Value):Prop where
 info:P.info? el=some ti
 zero:ti.zero=some z
 cells:z.cells.size=ti.size
 plain:∀y∈z.cells.toList,scalar y=true
 size:0<ti.size
 bytes:0<ti.bytes
theorem P8{z:Array Value}(hz:∀y∈z.toList,scalar y=true)(hs:0<z.size)(n:Nat):∀y∈(Builtin.zeroCells z n).toList,scalar y=true:=by
 intro y hy
 simp only [Builtin.zeroCells,Array.toList_map,List.mem_map] at hy
 obtain⟨i,_,rfl⟩:=hy
 have hlt:i % z.size<z.size:=Nat.mod_lt _ hs
 rw [getElem!_pos z _ hlt]
 exact hz _ (by simp)
theorem avF{el:TypeId}{ti:TypeInfo}{z:Value}(E:ElemOk P el ti z){h0:Hp}(hr:Rel G M h0 w)(hnx:h0.next=h.next){n C:Nat}{vs:List V}{xs:List Value}(hv:bZ M vs xs)(hl:vs.length=n*ti.size)(h1:∀y∈xs,scalar y=true)
  (hC:n≤C) (hC2:n≤9223372036854775807→C≤9223372036854775807) (e:pI el ti.size ti.bytes n vs h h0=.ok r h'):
  ∃M',Rp M' r (.slice (some ⟨w.heap.size,0,none⟩) n C)∧Rel G M' h' (w.drew.alloc (.cells (xs.toArray++Builtin.zeroCells z.cells (C - n)) el))∧
   Ext M h0 w M' h' (w.drew.alloc (.cells (xs.toArray++Builtin.zeroCells z.cells (C - n)) el))∧n*ti.bytes≤140737488355328:=by
 unfold pI at e
 split at e
 ·rename_i hb
  cases e
  have hb':n*ti.bytes≤140737488355328:=Nat.le_of_ble_eq_true hb
  have hxl:=hv.length
  have hsz:(xs.toArray++Builtin.zeroCells z.cells (C - n)).size=C*ti.size:=by
   rw [Array.size_append,size_zeroCells,E.cells,List.size_toArray,hxl,hl,←Nat.add_mul]
   congr 1;omega
  have:=hr.row vs (xs.toArray++Builtin.zeroCells z.cells (C - n)) el (0,0) (w':=w.drew.alloc (.cells (xs.toArray++Builtin.zeroCells z.cells (C - n)) el))
   (by simp only [Array.toList_append];rw [←hxl,List.take_left];exact hv)
   (fun y hy=>by
    simp only [Array.toList_append,List.mem_append] at hy
    rcases hy with hy|hy
    ·exact h1 y hy
    ·exact P8 E.plain (by rw [E.cells];exact E.size) _ y hy)
   (by simp) false (fun h=>by cases h) rfl rfl rfl rfl
  refine⟨_,?_,this.1,this.2,hb'⟩
  have hk:(M.add h0.next ⟨w.heap.size,0,(xs.toArray++Builtin.zeroCells z.cells (C - n)).size⟩) h.next=some ⟨w.heap.size,0,(xs.toArray++Builtin.zeroCells z.cells (C - n)).size⟩:=by
   rw [←hnx];exact M.fE _ _
  have hn:n≤n*ti.bytes:=Nat.le_mul_of_pos_right _ E.bytes
  exact ji (o:=0) hk ⟨⟨hC,hC2 (by omega)⟩,by show 0+0+C*ti.size=(xs.toArray++Builtin.zeroCells z.cells (C - n)).size;rw [hsz];omega⟩
 ·cases e
theorem aE9{el:TypeId}{ti:TypeInfo}{z:Value}(E:ElemOk P el ti z){h0:Hp}(hr:Rel G M h0 w)(hnx:h0.next=h.next){n C:Nat}{vs:List V}{xs:List Value}(hv:bZ M vs xs)(hl:vs.length=n*ti.size)(h1:∀y∈xs,scalar y=true)
  (hC:n≤C) (hC2:C≤9223372036854775807):
  ∃M',Rp M' (.slice h.next 0 n (.un ti.size)) (.slice (some ⟨w.heap.size,0,none⟩) n C)∧Rel G M' (h0.new (.bytes vs)) (w.drew.alloc (.cells (xs.toArray++Builtin.zeroCells z.cells (C - n)) el))∧
   Ext M h0 w M' (h0.new (.bytes vs)) (w.drew.alloc (.cells (xs.toArray++Builtin.zeroCells z.cells (C - n)) el)):=by
 have hxl:=hv.length
 have hsz:(xs.toArray++Builtin.zeroCells z.cells (C - n)).size=C*ti.size:=by
  rw [Array.size_append,size_zeroCells,E.cells,List.size_toArray,hxl,hl,←Nat.add_mul]
  congr 1;omega
 have:=hr.new (.bytes vs) (.cells (xs.toArray++Builtin.zeroCells z.cells (C - n)) el (0,0)) (xs.toArray++Builtin.zeroCells z.cells (C - n)).size (w':=w.drew.alloc (.cells (xs.toArray++Builtin.zeroCells z.cells (C - n)) el))
  rfl rfl rfl rfl (fun N hle=>⟨_,el,(0,0),by simp only [World.alloc];exact Array.getElem?_push_size,rfl,fun k v hk=>by
   obtain⟨x,hx',hrx⟩:=hv.get hk
   have hlt:=(List.getElem?_eq_some_iff.1 hx').1
   refine⟨x,?_,hrx.mono hle,h1 x (List.mem_of_getElem? hx')⟩
   show(xs.toArray++Builtin.zeroCells z.cells (C - n))[0+k]?=some x
   rw [Nat.zero_add,Array.getElem?_append_left (by simpa using hlt)]
   simpa using hx',fun k _ _ h=>by simp at h⟩)
 have hk:(M.add h0.next ⟨w.heap.size,0,(xs.toArray++Builtin.zeroCells z.cells (C - n)).size⟩) h.next=some ⟨w.heap.size,0,(xs.toArray++Builtin.zeroCells z.cells (C - n)).size⟩:=by
  rw [←hnx];exact M.fE _ _
 exact⟨_,ji (o:=0) hk ⟨⟨hC,hC2⟩,by show 0+0+C*ti.size=(xs.toArray++Builtin.zeroCells z.cells (C - n)).size;rw [hsz];omega⟩,this.1,this.2.1⟩
def ahZ(el:TypeId)(sz bt:Nat)(s:V)(n:Nat)(new:List V)(h:Hp):R V:=match n with
 |0=>(match s with
  | .aG=>.ok .aG h
  | .emp=>.ok .emp h
  | .slice i o len cap=>.ok (.slice i o len cap) h
  |_=>.bad)
 |m+1=>(match s with
  | .aG=>pI el sz bt (m+1) new h h
  | .slice i o len cap=>dQ h i fun wr cs=>eu (len+(m+1)) fun need=>(match cap with
   | .kn c=>(match Nat.ble need c with
    |true=>(match wr,jk (o+len*sz) new cs with
     | .rw t f,some cs'=>.ok (.slice i o need (.kn c)) (h.put i (some (.cells (.rw t f) cs')))
     |_,_=>.bad)
    |false=>(match gB (len*sz) (fG o cs) with
     |some old=>pI el sz bt need (old++new) h h
     |none=>.bad))
   | .un u=>(match wr,Nat.beq u sz with
    | .rw t f,true=>(match Nat.beq t el with
     |true=>(match gB (len*sz) (fG o cs) with
      |none=>.bad
      |some old=>(match fG (len*sz) (fG o cs) with
       | []=>pI el sz bt need (old++new) h (h.put i none)
       |_::_=>(match jk (o+len*sz) new cs with
        |some cs'=>.ok (.slice i o need (.un u)) (h.put i (some (.cells (.rw t f) cs')))
        |none=>.bad)))
     |false=>.bad)
    | .ro,true=>aIm sz bt i o len need new cs h
    |_,_=>.bad))
  |_=>.bad)
theorem ave(el:TypeId)(sz bt:Nat)(s x:V)(h:Hp):bT el sz bt s x h=xw sz x h fun n new=>ahZ el sz bt s n new h:=rfl
theorem aiC{t t2 ty el:TypeId}{ti:TypeInfo}{z:Value}(E:ElemOk P el ti z)
  {s:V} {a c:Value} {n:Nat} {new:List V} {news:List Value} (hr:Rel G M h w) (hs:Rp M s a) (hnew:bZ M new news) (hnl:new.length=n*ti.size) (hns:∀y∈news,scalar y=true)
  (hfitR:∀{base:Option Addr} {k cap:Nat},k+n≤cap→(Builtin.append_ #[t,t2] ty #[.slice base k cap,c]).run P w=
   (match base with|some a=>((storeCells (a.add (k*ti.size)) news).run P w).andThen fun _ w'=>.ok (.slice base (k+n) cap) w'|none=>.ok (.slice base (k+n) cap) w))
  (hout:∀{olds:List Value} {base:Option Addr} {k cap:Nat},(Builtin.firstCells ti.size k (.slice base k cap)).run P w.drew=.ok olds.toArray w.drew→cap<k+n→(k+n)*ti.bytes≤140737488355328→0<ti.bytes→
   (Builtin.append_ #[t,t2] ty #[.slice base k cap,c]).run P w=
    .ok (.slice (some ⟨w.heap.size,0,none⟩) (k+n) (grownCap w (k+n) cap el)) (w.drew.alloc (.cells (olds.toArray++news.toArray++Builtin.zeroCells z.cells (grownCap w (k+n) cap el - (k+n))) el)))
  (e:ahZ el ti.size ti.bytes s n new h=.ok r h'):Good P G M h w (Builtin.append_ #[t,t2] ty #[a,c]) r h':=by
 unfold ahZ at e
 have hdrew:w.drew.heap=w.heap:=rfl
 have hnwl:=hnew.length
 cases n with
 |zero=>
  have hnn:news= []:=by
   have:news.length=0:=by rw [hnwl,hnl];omega
   exact List.length_eq_zero_iff.1 this
  subst hnn
  simp only [] at e
  split at e
  ·cases e
   cases hs.aG
   refine .same hr (c:=.slice none 0 0) ?_ hs
   rw [@hfitR _ _ _ (by omega)]
  ·cases e
   obtain⟨ad,k,rfl⟩:=hs.emp
   refine .same hr (c:=.slice (some ad) 0 k) ?_ hs
   rw [@hfitR _ _ _ (by omega)]
   rfl
  ·cases e
   obtain⟨L,k,hL,hc,rfl⟩:=hs.slice
   refine .same hr (c:=.slice (some (L.at _)) _ k) ?_ hs
   rw [@hfitR _ _ _ (by rename_i cap;cases cap<;>simp only [aie] at hc<;>omega)]
   rfl
  ·cases e
 |succ m=>
  simp only [] at e
  split at e
  ·
   cases hs.aG
   obtain⟨M',h1,h2,h3,h4⟩:=avF (n:=m+1) (C:=grownCap w (0+(m+1)) 0 el) E hr rfl hnew hnl hns (by have:=grownCap_ge w (0+(m+1)) 0 el;omega) (fun hh=>grownCap_le_maxLen _ _ _ _ (by rw [Nat.zero_add];exact hh)) e
   refine⟨_,_,M',?_,h1,h2,h3⟩
   have:= @hout [] (none) 0 0 (by simp [Builtin.firstCells]) (by omega) (by rw [Nat.zero_add];exact h4) E.bytes
   rw [this]
   simp
  ·rename_i i o len cap
   obtain⟨L,k,hL,hc,rfl⟩:=hs.slice
   obtain⟨wr,cs,hi,e1⟩:=gK e
   clear e
   rw [dB] at e1
   have e:=e1
   clear e1
   have room:∀{cs':List V} {t0:TypeId} {f0:Bool},wr=.rw t0 f0→jk (o+len*ti.size) new cs=some cs'→len+(m+1)≤k→∀cp,aie L o (len+(m+1)) cp k→R.ok (V.slice i o (len+(m+1)) cp) (h.put i (some (.cells (.rw t0 f0) cs')))=.ok r h'→
     Good P G M h w (Builtin.append_ #[t,t2] ty #[.slice (some (L.at o)) len k,c]) r h':=by
    intro cs' t0 f0 hw hp hle cp hcp e2
    subst hw
    cases e2
    obtain⟨w',g1,g2,g3⟩:=hr.store (P:=P) (qN hi) hL hp hnew hns
    refine⟨.slice (some (L.at o)) (len+(m+1)) k,w',M,?_,ji hL hcp,g2,g3⟩
    rw [@hfitR _ _ _ hle]
    simp only [Loc.Ig,g1]
    rfl
   have grow:∀{old:List V} {h0:Hp},gB (len*ti.size) (fG o cs)=some old→Rel G M h0 w→h0.next=h.next→Ext M h w M h0 w→k<len+(m+1)→
     pI el ti.size ti.bytes (len+(m+1)) (old++new) h h0=.ok r h'→Good P G M h w (Builtin.append_ #[t,t2] ty #[.slice (some (L.at o)) len k,c]) r h':=by
    intro old h0 ho hr0 hnx hext hlt e2
    obtain⟨olds,ho1,ho2,ho3,ho4⟩:=hr.cells hi hL ho
    have hol:old.length=len*ti.size:=by rw [←ho1.length];exact ho2
    obtain⟨M',h1,h2,h3,h4⟩:=avF (n:=len+(m+1)) (C:=grownCap w (len+(m+1)) k el) E hr0 hnx (bZ.append ho1 hnew) (by rw [List.length_append,hol,hnl,←Nat.add_mul])
     (fun y hy=>(List.mem_append.1 hy).elim (ho3 y) (hns y)) (grownCap_ge _ _ _ _) (fun hh=>grownCap_le_maxLen _ _ _ _ hh) e2
    refine⟨_,_,M',?_,h1,h2,hext.trans h3⟩
    have:= @hout olds (some (L.at o)) len k
     (run_firstCells_some _ _ _ _ _ _ olds ho2 (fun j v hj=>by rw [←ho4 j v hj];rfl)) hlt h4 E.bytes
    rw [this]
    simp
   cases cap with
   |kn cc=>
    obtain⟨rfl,hcl⟩:=hc
    simp only [] at e
    split at e
    ·rename_i hle
     split at e
     ·rename_i hp
      exact room rfl hp (Nat.le_of_ble_eq_true hle) (.kn k) ⟨rfl,Nat.le_of_ble_eq_true hle⟩ e
     ·cases e
    ·rename_i hle
     split at e
     ·rename_i old ho
      refine grow ho hr rfl (.refl hr) ?_ e
      have:¬len+(m+1)≤k:=fun hh=>by rw [Nat.ble_eq_true_of_le hh] at hle;cases hle
      omega
     ·cases e
   |un u=>
    obtain⟨hk1,hk2⟩:=hc
    simp only [] at e
    split at e
    ·rename_i hu
     have hu':u=ti.size:=Nat.eq_of_beq_eq_true hu
     subst hu'
     rename_i t0 f0
     split at e
     rotate_left
     ·cases e
     rename_i hte
     have hte':t0=el:=Nat.eq_of_beq_eq_true hte
     subst hte'
     split at e
     ·cases e
     ·rename_i old ho
      split at e
      ·rename_i hd
       by_cases hle:len+(m+1)≤k
       ·obtain⟨L',hL',cc,el',fr,hb,hsz,hcell,hfr⟩:=hr.ob i _ (qN hi)
        rw [hL] at hL';cases hL'
        obtain⟨olds,ho1,ho2,ho3,ho4⟩:=hr.cells hi hL ho
        have hol:old.length=len*ti.size:=by rw [←ho1.length];exact ho2
        have hmul:(len+(m+1))*ti.size≤k*ti.size:=Nat.mul_le_mul_right _ hle
        rw [Nat.add_mul] at hmul
        have hin:∀j,j<news.length→L.off+(o+len*ti.size)+j<cc.size:=fun j hj=>by rw [hnwl,hnl] at hj;omega
        obtain⟨w',c',g1,g2,g3,g4,g5,g6,g7,g8,g9⟩:=auy (P:=P) (a:=L.off+(o+len*ti.size)) hb hin (fun j hj=>hfr.2.1 _ (by omega) (by have:=hin j hj;omega)) hns
        unfold pI at e
        split at e
        ·cases e
         have hcell':∀(N:Mp),M.le N→∀(q:Nat) (v:V),(old++new)[q]?=some v→∃x,c'[L.off+o+q]?=some x∧Rp N v x∧scalar x=true:=by
          intro N hle' q v hq
          rw [g4]
          rw [List.getElem?_append] at hq
          split at hq
          ·rename_i hql
           rw [if_neg (by omega)]
           obtain⟨hq1,hq2⟩:=Um _ ho
           rw [hq2,jT,List.getElem?_take] at hq
           rw [if_pos (by omega),List.getElem?_drop] at hq
           obtain⟨x,x1,x2,x3⟩:=hcell _ _ hq
           exact⟨x,by rw [←x1];congr 1;omega,x2.mono hle',x3⟩
          ·rename_i hql
           obtain⟨x,x1,x2⟩:=hnew.get hq
           have hxl:q - old.length<news.length:=(List.getElem?_eq_some_iff.1 x1).1
           rw [if_pos (by omega)]
           exact⟨x,by rw [←x1];congr 1;omega,x2.mono hle',hns x (List.mem_of_getElem? x1)⟩
         have hov:=hr.over (t':=t0) (f':=false) (qN hi) hL o (old++new) (w':=w') g6 (fun q hq=>g5 q hq) g7 g8 g9 (fun N hN=>⟨c',el',fr,g2,g3.trans hsz,hcell' N hN,hfr.1,fun q hq1 hq2=>hfr.2.1 q (by simp only [] at hq1;omega) hq2,fun h=>(by cases h)⟩)
         refine⟨.slice (some (L.at o)) (len+(m+1)) k,w',_,?_,?_,hov.1,hov.2⟩
         ·rw [@hfitR _ _ _ hle]
          simp only [Loc.Ig]
          have:(storeCells (L.at (o+len*ti.size)) news).run P w=.ok () w':=g1
          rw [this]
          rfl
         ·have:=ji (o:=0) (n:=len+(m+1)) (k:=.un ti.size) (m:=k) (M.fE h.next ⟨L.blk,L.off+o,L.size⟩) ⟨⟨hle,hk1.2⟩,by show L.off+o+0+k*ti.size=L.size;omega⟩
          exact this
        ·cases e
       ·have hd:=hr.drop i
        exact grow ho hd.1 rfl hd.2 (by omega) e
      ·rename_i v vs hd
       split at e
       ·rename_i hp
        have hpos:0<(m+1)*ti.size:=Nat.mul_pos (by omega) E.size
        obtain⟨hfit,_⟩:=Gj _ _ hp
        obtain⟨L',hL',cc,el',fr,hb,hsz,hcell,hfr⟩:=hr.ob i _ (qN hi)
        rw [hL] at hL';cases hL'
        have hle:len+(m+1)≤k:=by
         have h1:(len+(m+1))*ti.size≤k*ti.size:=by
          rw [Nat.add_mul]
          have hlast:0<cs.length:=by omega
          obtain⟨x,hx1,_⟩:=hcell (cs.length - 1) cs[cs.length - 1] (List.getElem?_eq_getElem (by omega))
          have:=(Array.getElem?_eq_some_iff.1 hx1).1
          omega
         exact Nat.le_of_mul_le_mul_right h1 E.size
        exact room rfl hp hle (.un ti.size) ⟨⟨hle,hk1.2⟩,hk2⟩ e
       ·cases e
    ·
     rename_i hu
     have hu':u=ti.size:=Nat.eq_of_beq_eq_true hu
     subst hu'
     unfold aIm at e
     split at e
     ·rename_i ob hob
      split at e
      ·rename_i cs0
       rw [hob] at hi
       cases hi
       split at e
       ·rename_i old ho
        split at e
        ·rename_i hd
         split at e
         ·rename_i hbig
          have hbig':(len+(m+1))*ti.bytes≤140737488355328:=Nat.le_of_ble_eq_true hbig
          cases e
          have hi':(h.get i).bind Ob.row=some (.ro,cs):=by rw [hob];rfl
          obtain⟨olds,ho1,ho2,ho3,ho4⟩:=hr.cells hi' hL ho
          have hol:old.length=len*ti.size:=by rw [←ho1.length];exact ho2
          obtain⟨L',hL',cc,el',fr,hb,hsz,hcell,hfr⟩:=hr.ob i _ hob
          rw [hL] at hL';cases hL'
          by_cases hle:len+(m+1)≤k
          ·have hmul:(len+(m+1))*ti.size≤k*ti.size:=Nat.mul_le_mul_right _ hle
           rw [Nat.add_mul] at hmul
           have hin:∀j,j<news.length→L.off+(o+len*ti.size)+j<cc.size:=fun j hj=>by rw [hnwl,hnl] at hj;omega
           obtain⟨w',c',g1,g2,g3,g4,g5,g6,g7,g8,g9⟩:=auy (P:=P) (a:=L.off+(o+len*ti.size)) hb hin (fun j hj=>hfr _ (by omega) (by have:=hin j hj;omega)) hns
           have hcell':∀(N:Mp),M.le N→∀(q:Nat) (v:V),(old++new)[q]?=some v→∃x,c'[L.off+o+q]?=some x∧Rp N v x∧scalar x=true:=by
            intro N hle' q v hq
            rw [g4]
            rw [List.getElem?_append] at hq
            split at hq
            ·rename_i hql
             rw [if_neg (by omega)]
             obtain⟨hq1,hq2⟩:=Um _ ho
             rw [hq2,jT,List.getElem?_take] at hq
             rw [if_pos (by omega),List.getElem?_drop] at hq
             obtain⟨x,x1,x2,x3⟩:=hcell _ _ hq
             exact⟨x,by rw [←x1];congr 1;omega,x2.mono hle',x3⟩
            ·rename_i hql
             obtain⟨x,x1,x2⟩:=hnew.get hq
             have hxl:q - old.length<news.length:=(List.getElem?_eq_some_iff.1 x1).1
             rw [if_pos (by omega)]
             exact⟨x,by rw [←x1];congr 1;omega,x2.mono hle',hns x (List.mem_of_getElem? x1)⟩
           have hov:=hr.aJh hob rfl hL o (.bytes (old++new)) (w':=w') g6 (fun q hq=>g5 q hq) g7 g8 g9 (fun N hN=>⟨c',el',fr,g2,g3.trans hsz,hcell' N hN,fun q hq1 hq2=>hfr q (by simp only [] at hq1;omega) hq2⟩)
           refine⟨.slice (some (L.at o)) (len+(m+1)) k,w',_,?_,?_,hov.1,hov.2⟩
           ·rw [@hfitR _ _ _ hle]
            simp only [Loc.Ig]
            have:(storeCells (L.at (o+len*ti.size)) news).run P w=.ok () w':=g1
            rw [this]
            rfl
           ·exact ji (o:=0) (n:=len+(m+1)) (k:=.un ti.size) (m:=k) (M.fE h.next ⟨L.blk,L.off+o,L.size⟩) ⟨⟨hle,hk1.2⟩,by show L.off+o+0+k*ti.size=L.size;omega⟩
          ·have hdr:=hr.drop i
           have hn1:len+(m+1)≤(len+(m+1))*ti.bytes:=Nat.le_mul_of_pos_right _ E.bytes
           obtain⟨M',h1,h2,h3⟩:=aE9 (h:=h) (n:=len+(m+1)) (C:=grownCap w (len+(m+1)) k el) E hdr.1 rfl (bZ.append ho1 hnew) (by rw [List.length_append,hol,hnl,←Nat.add_mul])
            (fun y hy=>(List.mem_append.1 hy).elim (ho3 y) (hns y)) (grownCap_ge _ _ _ _) (grownCap_le_maxLen _ _ _ _ (by show _≤9223372036854775807;omega))
           refine⟨_,_,M',?_,h1,h2,hdr.2.trans h3⟩
           have:= @hout olds (some (L.at o)) len k
            (run_firstCells_some _ _ _ _ _ _ olds ho2 (fun j v hj=>by rw [←ho4 j v hj];rfl)) (by omega) hbig' E.bytes
           rw [this]
           simp
         ·cases e
        ·cases e
       ·cases e
      ·cases e
     ·cases e
    ·cases e
  ·cases e
theorem ar1{t t2 ty el:TypeId}{d2:TypeDesc}{ti:TypeInfo}{z:Value}(ht:P.underlying t=some (.slice el))(ht2:P.underlying t2=some d2)(hd2:∀k,d2≠ .int k)(E:ElemOk P el ti z)
  {s x:V} {a c:Value} (hr:Rel G M h w) (hs:Rp M s a) (hx:Rp M x c) (e0:bT el ti.size ti.bytes s x h=.ok r h'):Good P G M h w (Builtin.append_ #[t,t2] ty #[a,c]) r h':=by
 rw [ave] at e0
 obtain⟨n,new,news,e,hlen,hnew,hnl,hns,hnews⟩:=ait (P:=P) hr hx e0
 exact aiC E hr hs hnew hnl hns (fun hle=>asX ht ht2 hd2 E.info hlen (hnews w rfl) hle)
  (fun ho hlt hb hb0=>apD ht ht2 hd2 E.info E.zero hlen (hnews _ rfl) ho hlt hb hb0) e
end
end Go.Vm

namespace Go.Vm
noncomputable section
variable{P:Program}{G:Nat}{M:Mp}{h h':Hp}{w:World}{r:V}
def ani:Value→Option V
 | .bool b=>some (.bool b)
 | .int k n=>some (.int k n)
 | .string s=>some (.str (s.data.toList.map UInt8.toNat))
 | .pointer none=>some .bY
 | .slice none 0 0=>some .aG
 | .map none=>some .jQ
 | .nilFunc=>some .gG
 | .nilIface=>some .oJ
 |_=>none
def Ie:List Value→Option (List V)
 | []=>some []
 |v::l=>(match ani v,Ie l with|some a,some r=>some (a::r)|_,_=>none)
def const:Value→Option V
 | .agg cs=>(match Ie cs.toList with|some l=>some (.agg (V.ofList l))|none=>none)
 | .tuple cs=>(match cs.toList with| []=>some V.undef|_=>none)
 |v=>ani v
theorem aFx(s:ByteArray):bts (s.data.toList.map UInt8.toNat)=s:=by
 apply ByteArray.ext
 simp only [bts,List.map_map]
 have:UInt8.ofNat∘UInt8.toNat=id:=by funext x;simp
 rw [this];simp
theorem arY{v:Value}{a:V}(e:ani v=some a)(M:Mp):Rp M a v∧scalar v=true:=by
 unfold ani at e
 split at e<;>cases e
 ·exact⟨⟨rfl,rfl⟩,rfl⟩
 ·exact⟨⟨rfl,rfl⟩,rfl⟩
 ·refine⟨⟨rfl,?_,?_⟩,rfl⟩
  ·intro b hb
   obtain⟨c,_,rfl⟩:=List.mem_map.1 hb
   exact c.toNat_lt
  ·rw [aFx]
 ·exact⟨⟨rfl,rfl⟩,rfl⟩
 ·exact⟨⟨rfl,rfl⟩,rfl⟩
 ·exact⟨⟨rfl,rfl⟩,rfl⟩
 ·exact⟨⟨rfl,rfl⟩,rfl⟩
 ·exact⟨⟨rfl,rfl⟩,rfl⟩
theorem Bj:∀{l:List Value} {r:List V},Ie l=some r→∀M:Mp,bZ M r l∧∀y∈l,scalar y=true
 | [],r,e,M=>by cases e;exact⟨rfl,by simp⟩
 |v::l,r,e,M=>by
  simp only [Ie] at e
  split at e
  ·rename_i a t ha ht
   cases e
   obtain⟨h1,h2⟩:=arY ha M
   obtain⟨h3,h4⟩:=Bj ht M
   exact⟨⟨v,l,h1,h3,rfl⟩,fun y hy=>by rcases List.mem_cons.1 hy with rfl|hy;exact h2;exact h4 y hy⟩
  ·cases e
theorem UL{v:Value}{a:V}(e:const v=some a)(M:Mp):Rp M a v:=by
 unfold const at e
 split at e
 ·rename_i cs
  split at e
  ·rename_i l hl
   cases e
   obtain⟨h1,h2⟩:=Bj hl M
   exact aeJ (xs:=cs.toList) h1 h2
  ·cases e
 ·rename_i cs
  split at e
  ·rename_i hc
   cases e
   have:cs= #[]:=by apply Array.ext';exact hc
   subst this
   exact pG M
  ·cases e
 ·exact(arY e M).1
def NJ:List V→List (Nat×Nat×V)→Option (List V)
 |cs,[]=>some cs
 |cs,(off,size,v)::rest=>(match gu v,Nat.beq v.cells.length size with
  |true,true=>(match jk off v.cells cs with|some cs'=>NJ cs' rest|none=>none)
  |_,_=>none)
def placed(place:Nat→Option (Nat×Nat)):List (Nat×V)→Option (List (Nat×Nat×V))
 | []=>some []
 |(i,v)::rest=>(match place i,placed place rest with|some p,some r=>some ((p.1,p.2,v)::r)|_,_=>none)
theorem foldl_set(off:Nat):∀(cs:List Value) (j:Nat) (xs:Array Value),off+j+cs.length≤xs.size→
  ((cs.zipIdx j).foldl (fun a (p:Value×Nat)=>a.setIfInBounds (off+p.2) p.1) xs).size=xs.size∧
  ∀k,((cs.zipIdx j).foldl (fun a (p:Value×Nat)=>a.setIfInBounds (off+p.2) p.1) xs)[k]?=if off+j≤k∧k<off+j+cs.length then cs[k - (off+j)]? else xs[k]?:=by
 intro cs
 induction cs with
 |nil=>intro j xs _;exact⟨rfl,fun k=>by rw [if_neg (by simp<;>omega)];rfl⟩
 |cons c cs ih=>
  intro j xs hl
  simp only [List.zipIdx_cons,List.foldl_cons]
  have hl':off+(j+1)+cs.length≤(xs.setIfInBounds (off+j) c).size:=by simp at hl⊢;omega
  obtain⟨h1,h2⟩:=ih (j+1) (xs.setIfInBounds (off+j) c) hl'
  refine⟨by rw [h1];simp,fun k=>?_⟩
  rw [h2 k]
  by_cases e:k=off+j
  ·subst e
   rw [if_neg (by omega),if_pos (by simp)]
   rw [Nat.sub_self,Array.getElem?_setIfInBounds_self_of_lt (by simp at hl;omega)]
   rfl
  ·by_cases hk:off+(j+1)≤k∧k<off+(j+1)+cs.length
   ·rw [if_pos hk,if_pos (by simp;omega),show k - (off+j)=(k - (off+(j+1)))+1 from by omega]
    simp
   ·rw [if_neg hk,if_neg (by simp at hk⊢;omega),Array.getElem?_setIfInBounds_ne (by omega)]
theorem aqc{place:Nat→Option (Nat×Nat)}:∀{ps:List (Nat×V)} {qs:List (Nat×Nat×V)} {cs:List V} {r:List V} {ys:List (Nat×Value)} {xs:Array Value},
  placed place ps=some qs→NJ cs qs=some r→bZ M cs xs.toList→(∀y∈xs.toList,scalar y=true)→ps.map (·.1)=ys.map (·.1)→bZ M (ps.map (·.2)) (ys.map (·.2))→
  ∃xs',Instr.fill place xs ys=some xs'∧bZ M r xs'.toList∧∀y∈xs'.toList,scalar y=true:=by
 intro ps
 induction ps with
 |nil=>
  intro qs cs r ys xs hp hf hx hs h1 h2
  cases ys with
  |cons y ys=>cases h1
  |nil=>
   cases hp;cases hf
   exact⟨xs,rfl,hx,hs⟩
 |cons p ps ih=>
  intro qs cs r ys xs hp hf hx hs h1 h2
  cases ys with
  |nil=>cases h1
  |cons y ys=>
   obtain⟨i,v⟩:=p
   obtain⟨i',c⟩:=y
   simp only [List.map_cons,List.cons.injEq] at h1
   obtain⟨rfl,h1⟩:=h1
   simp only [List.map_cons] at h2
   obtain⟨x,xt,hv,hrest,he⟩:=h2
   simp only [List.cons.injEq] at he
   obtain⟨rfl,rfl⟩:=he
   simp only [placed] at hp
   split at hp
   ·rename_i q r' hq hr'
    cases hp
    simp only [NJ] at hf
    split at hf
    ·rename_i hn hb
     split at hf
     ·rename_i cs' hput
      have hsz:=Nat.eq_of_beq_eq_true hb
      have hvc:=hv.cells
      have hvl:=hvc.length
      obtain⟨hfit,_⟩:=Gj _ _ hput
      have hxl:=hx.length
      have hlen:xs.size=cs.length:=by simpa using hxl
      have hcl:c.cells.size=v.cells.length:=by simpa using hvl
      have hfold:=foldl_set q.1 c.cells.toList 0 xs (by simp;omega)
      simp only [Nat.add_zero] at hfold
      obtain⟨f1,f2⟩:=hfold
      have hfoldA:c.cells.zipIdx.foldl (fun cs x=>match x with|(c,j)=>cs.setIfInBounds (q.1+j) c) xs=(c.cells.toList.zipIdx 0).foldl (fun a (p:Value×Nat)=>a.setIfInBounds (q.1+p.2) p.1) xs:=by
       rw [←Array.foldl_toList,Array.toList_zipIdx]
      have hcs:=Bq hv hn
      have:=ih (qs:=r') (cs:=cs') (r:=r) (ys:=ys) (xs:=(c.cells.toList.zipIdx 0).foldl (fun a (p:Value×Nat)=>a.setIfInBounds (q.1+p.2) p.1) xs) hr' hf
       (bZ.mk (by
        have:=(Gj _ _ hput).2
        have hl2:cs'.length=cs.length:=by rw [this];simp;omega
        simp only [Array.length_toList,f1];omega) (fun k u hk=>by
        rw [akp hput] at hk
        simp only [Array.getElem?_toList]
        rw [f2 k]
        split at hk
        ·rw [if_neg (by omega)]
         obtain⟨x,x1,x2⟩:=hx.get hk
         exact⟨x,by simpa using x1,x2⟩
        ·split at hk
         ·rw [if_pos (by simp;omega)]
          exact hvc.get hk
         ·rw [if_neg (by simp;omega)]
          obtain⟨x,x1,x2⟩:=hx.get hk
          exact⟨x,by simpa using x1,x2⟩))
       (fun y hy=>by
        obtain⟨k,hk⟩:=List.mem_iff_getElem?.1 hy
        simp only [Array.getElem?_toList] at hk
        rw [f2 k] at hk
        split at hk
        ·exact hcs y (List.mem_of_getElem? hk)
        ·exact hs y (List.mem_of_getElem? (by simpa using hk)))
       h1 hrest
      obtain⟨xs',g1,g2,g3⟩:=this
      refine⟨xs',?_,g2,g3⟩
      simp only [Instr.fill,hq]
      rw [if_neg (by simp;omega)]
      rw [hfoldA]
      exact g1
     ·cases hf
    ·cases hf
   ·cases hp
def bK(z:List V)(qs:List (Nat×Nat×V))(h:Hp):R V:=match NJ z qs with
 |some cs=>.ok (.agg (V.ofList cs)) h
 |none=>.bad
def bI(el:TypeId)(z:List V)(len:Nat)(qs:List (Nat×Nat×V))(h:Hp):R V:=match NJ z qs with
 |some cs=>.ok (.slice h.next 0 len (.kn len)) (h.new (.cells (.rw el true) cs))
 |none=>.bad
theorem av5{t:TypeId}{d:TypeDesc}{it:TypeInfo}{z:Value}{place:Nat→Option (Nat×Nat)}(hd:P.underlying t=some d)(hit:P.info? t=some it)(hz:it.zero=some z)
  (hpl:(∃n e ie,d=.array n e∧P.info? e=some ie∧place=fun i=>some (i*ie.size,ie.size))∨
   (∃fs places,d=.struct fs∧fs.toList.mapM (fun f=>(P.info? f.type).map fun i=>(f.offset,i.size))=some places∧place=fun i=>places.toArray[i]?))
  {zs:List V} (hzs:bZ M zs z.cells.toList) (hsc:∀y∈z.cells.toList,scalar y=true) {ps:List (Nat×V)} {qs:List (Nat×Nat×V)} {ys:Array (Nat×Value)}
  (hp:placed place ps=some qs) (h1:ps.map (·.1)=ys.toList.map (·.1)) (h2:bZ M (ps.map (·.2)) (ys.toList.map (·.2))) (hr:Rel G M h w) (e:bK zs qs h=.ok r h'):
  Good P G M h w (Instr.build t ys) r h':=by
 unfold bK at e
 split at e
 ·rename_i cs hf
  cases e
  obtain⟨xs',g1,g2,g3⟩:=aqc hp hf hzs hsc h1 h2
  refine .same hr (c:=.agg xs') (run_build w t ys xs' ?_) (aeJ (xs:=xs'.toList) g2 g3)
  unfold Program.built
  rcases hpl with⟨n,e,ie,rfl,hie,rfl⟩|⟨fs,places,rfl,hfs,rfl⟩
  ·simp only [hit,hd,hz,hie]
   exact g1
  ·simp only [hit,hd,hz,hfs]
   exact g1
 ·cases e
theorem as4{t el:TypeId}{ti:TypeInfo}{z:Value}(hd:P.underlying t=some (.slice el))(E:ElemOk P el ti z){len:Nat}(hpos:0<len)(hsmall:len*ti.size≤16777216)
  {zs:List V} (hzs:bZ M zs ((Array.range (len*ti.size)).map (z.cells[· % z.cells.size]!)).toList) {ps:List (Nat×V)} {qs:List (Nat×Nat×V)} {ys:Array (Nat×Value)}
  (hp:placed (fun i=>some (i*ti.size,ti.size)) ps=some qs) (h1:ps.map (·.1)=ys.toList.map (·.1)) (h2:bZ M (ps.map (·.2)) (ys.toList.map (·.2))) (hr:Rel G M h w) (e:bI el zs len qs h=.ok r h'):
  Good P G M h w (Instr.buildSlice t len ys) r h':=by
 unfold bI at e
 split at e
 ·rename_i cs hf
  cases e
  have hsc:∀y∈((Array.range (len*ti.size)).map (z.cells[· % z.cells.size]!)).toList,scalar y=true:=by
   intro y hy
   simp only [Array.toList_map,List.mem_map] at hy
   obtain⟨i,_,rfl⟩:=hy
   have hlt:i % z.cells.size<z.cells.size:=Nat.mod_lt _ (by rw [E.cells];exact E.size)
   rw [getElem!_pos z.cells _ hlt]
   exact E.plain _ (by simp)
  obtain⟨xs',g1,g2,g3⟩:=aqc hp hf hzs hsc h1 h2
  have hl:=g2.length
  have:=hr.row cs xs' el (0,0) (w':=w.alloc (.cells xs' el)) (by rw [show cs.length=xs'.toList.length from hl.symm,List.take_length];exact g2) g3 (by simp) true (fun _=>by rw [←hl];simp) rfl rfl rfl rfl
  have hnz:¬len*ti.size=0:=by have:=Nat.mul_pos hpos E.size;omega
  exact⟨_,_,_,run_buildSlice w t el len ys xs' ti z hd E.info E.zero (by omega) hnz g1,ji (o:=0) (k:=.kn len) (m:=len) (M.fE _ _) ⟨rfl,Nat.le_refl _⟩,this.1,this.2⟩
 ·cases e
theorem aIn{t:TypeId}{it:TypeInfo}{z:Value}(hit:P.info? t=some it)(hz:it.zero=some z){zs:List V}(hzs:bZ M zs z.cells.toList)(hsc:∀y∈z.cells.toList,scalar y=true)
  (hr:Rel G M h w) (e:fC t zs h=.ok r h'):Good P G M h w (Instr.alloc t true (.tuple #[])) r h':=by
 cases e
 have hl:=hzs.length
 have:=hr.row zs z.cells t (0,0) (w':=w.alloc (.cells z.cells t)) (by rw [show zs.length=z.cells.toList.length from hl.symm,List.take_length];exact hzs) hsc (by simp) true (fun _=>by rw [←hl];simp) rfl rfl rfl rfl
 refine⟨.pointer (some ⟨w.heap.size,0,none⟩),_,_,?_,yF (M.fE _ _) 0,this.1,this.2⟩
 simp [Instr.alloc,zeroValue,typeInfo,hit,hz,newVar,newRow]
def times(n:Nat)(z:List V):List V:=Nat.rec (motive:=fun _=>List V) [] (fun _ ih=>z++ih) n
def SE(el:TypeId)(bt:Nat)(z:List V)(l c:V)(h:Hp):R V:=lV l fun l=>lV c fun c=>
 match Nat.ble l c,Nat.ble (Nat.mul c bt) 140737488355328 with
 |true,true=>.ok (.slice h.next 0 l (.kn c)) (h.new (.cells (.rw el true) (times c z)))
 |_,_=>.bad
theorem ET(z:Array Value):∀n:Nat,0<z.size→((Array.range (n*z.size)).map (z[· % z.size]!)).toList=(List.replicate n z.toList).flatten:=by
 intro n hz
 apply List.ext_getElem?
 intro i
 induction n generalizing i with
 |zero=>simp
 |succ n ih=>
  rw [List.replicate_succ,List.flatten_cons,List.getElem?_append]
  by_cases hi:i<z.size
  ·rw [if_pos (by simpa using hi)]
   have h1:i<(n+1)*z.size:=by rw [Nat.add_mul];omega
   simp [h1,Nat.mod_eq_of_lt hi,hi]
  ·rw [if_neg (by simpa using hi)]
   rw [←ih]
   by_cases h1:i<(n+1)*z.size
   ·have h2:i - z.size<n*z.size:=by rw [Nat.add_mul] at h1;omega
    have h3:(i - z.size) % z.size=i % z.size:=by
     conv=>rhs;rw [show i=(i - z.size)+z.size from by omega]
     rw [Nat.add_mod_right]
    simp [h1,h2,h3]
   ·have h2:¬i - z.size<n*z.size:=by rw [Nat.add_mul] at h1;omega
    simp [h1,h2]
theorem WH{zs:List V}{xs:List Value}(hz:bZ M zs xs)(n:Nat):bZ M (times n zs) (List.replicate n xs).flatten:=by
 induction n with
 |zero=>rfl
 |succ n ih=>
  rw [List.replicate_succ,List.flatten_cons]
  exact bZ.append hz ih
theorem avm{t el:TypeId}{ti:TypeInfo}{z:Value}(hd:P.underlying t=some (.slice el))(E:ElemOk P el ti z){zs:List V}(hzs:bZ M zs z.cells.toList)
  {l c:V} {a b:Value} (hr:Rel G M h w) (hl:Rp M l a) (hc:Rp M c b) (e:SE el ti.bytes zs l c h=.ok r h'):Good P G M h w (Instr.makeSlice t a b) r h':=by
 obtain⟨k1,n1,rfl,e1⟩:=pJ e
 clear e
 obtain⟨k2,n2,rfl,e2⟩:=pJ e1
 clear e1
 cases hl.int
 cases hc.int
 split at e2
 ·rename_i c1 c2
  cases e2
  have c1':n1≤n2:=Nat.le_of_ble_eq_true c1
  have c2':n2*ti.bytes≤140737488355328:=Nat.le_of_ble_eq_true c2
  have hle:n2≤n2*ti.bytes:=Nat.le_mul_of_pos_right _ E.bytes
  have hcast:(ti.bytes:Int)*(n2:Int)≤281474976710656:=by
   have:((ti.bytes*n2:Nat):Int)≤281474976710656:=by rw [Nat.mul_comm];omega
   rwa [Int.natCast_mul] at this
  have hrun:=run_make (P:=P) w t el ti z hd E.info E.zero k1 k2 (n1:Int) (n2:Int) (by omega) (by omega) hcast (by omega)
  simp only [Int.toNat_natCast] at hrun
  have hcs:(madeCells z.cells (n2*ti.size)).toList=(List.replicate n2 z.cells.toList).flatten:=by
   unfold madeCells
   rw [←E.cells]
   exact ET z.cells n2 (by rw [E.cells];exact E.size)
  have hrep:=WH hzs n2
  have hlen:=hrep.length
  have:=hr.row (times n2 zs) (madeCells z.cells (n2*ti.size)) el (0,0) (w':=w.alloc (.cells (madeCells z.cells (n2*ti.size)) el))
   (by rw [hcs,←hlen,List.take_length];exact hrep)
   (by
    intro y hy
    rw [hcs] at hy
    obtain⟨l,hl,hyl⟩:=List.mem_flatten.1 hy
    rw [(List.mem_replicate.1 hl).2] at hyl
    exact E.plain y hyl) (by simp) true (fun _=>by rw [←hlen,←hcs];simp) rfl rfl rfl rfl
  exact⟨_,_,_,hrun,ji (o:=0) (n:=n1) (k:=.kn n2) (m:=n2) (M.fE _ _) ⟨rfl,c1'⟩,this.1,this.2⟩
 ·cases e2
def Gn(x:V)(h:Hp):R V:=match x with
 | .str s=>(match Nat.blt s.length 4611686018427387904 with|true=>.ok (.slice h.next 0 s.length (.un 1)) (h.new (.bytes (u8s s)))|false=>.bad)
 |_=>.bad
def qO:List V→Option (List Nat)
 | []=>some []
 |v::l=>(match v with
  | .int k n=>(match Nat.beq (kix k) 4,n with
   |true,.ofNat b=>(match Nat.blt b 256,qO l with|true,some r=>some (b::r)|_,_=>none)
   |_,_=>none)
  |_=>none)
def kY(x:V)(h:Hp):R V:=match x with
 | .aG=>.ok (.str []) h
 | .emp=>.ok (.str []) h
 | .slice i o n _=>dQ h i fun _ cs=>(match gB n (fG o cs) with
  |some l=>(match qO l with|some s=>.ok (.str s) h|none=>.bad)
  |none=>.bad)
 |_=>.bad
theorem ayS{s d el:TypeId}(hs:P.underlying s=some .string)(hd:P.underlying d=some (.slice el))(he:P.underlying el=some (.int .u8)){x:V}{a:Value}(hr:Rel G M h w)(hx:Rp M x a)(e:Gn x h=.ok r h'):
  Good P G M h w (convert s d a) r h':=by
 unfold Gn at e
 split at e
 ·rename_i l
  obtain⟨hl,rfl⟩:=hx.str
  split at e
  ·rename_i hbl
   have hbl':l.length<4611686018427387904:=by simpa [Nat.blt_eq] using hbl
   cases e
   have hrun:=run_bytes_of_string (P:=P) w s d el (bts l) hs hd he
   have hge:=grownCap_ge w (bts l).size 0 el
   have hgl:grownCap w (bts l).size 0 el≤9223372036854775807:=grownCap_le_maxLen _ _ _ _ (by rw [lT];show _≤9223372036854775807;omega)
   generalize hC:grownCap w (bts l).size 0 el=C at hrun hge hgl
   have hbs:(bytesRow (bts l) C).toList=(l.map fun b=>Value.int .u8 (.ofNat b))++List.replicate (C - l.length) (.int .u8 0):=by
    simp only [bytesRow,Array.toList_append,Array.toList_map,lT,Array.toList_replicate]
    congr 1
    simp only [bts,List.map_map]
    apply List.map_congr_left
    intro b hb
    simp [Ul (hl b hb)]
   have hsz:(bytesRow (bts l) C).size=C:=by
    rw [←Array.length_toList,hbs];rw [lT] at hge;simp;omega
   have hrep:bZ M (u8s l) (l.map fun b=>Value.int .u8 (.ofNat b)):=by
    refine bZ.mk (by simp [u8s]) (fun i v hi=>?_)
    simp only [u8s,List.getElem?_map] at hi⊢
    cases hsi:l[i]? with
    |none=>rw [hsi] at hi;cases hi
    |some b=>rw [hsi] at hi;cases hi;exact⟨_,rfl,iq M _ _⟩
   have:=hr.new (.bytes (u8s l)) (.cells (bytesRow (bts l) C) el ((bytesRow (bts l) C).size,(bytesRow (bts l) C).size+1)) (bytesRow (bts l) C).size
    (w':=w.drew.alloc (.cells (bytesRow (bts l) C) el ((bytesRow (bts l) C).size,(bytesRow (bts l) C).size+1))) rfl rfl rfl rfl
    (fun N hle=>⟨_,_,_,by simp only [World.alloc];exact Array.getElem?_push_size,rfl,fun k v hk=>by
     obtain⟨x,hx',hrx⟩:=hrep.get hk
     have hbx:(bytesRow (bts l) C)[0+k]?=some x:=by
      rw [Nat.zero_add,←Array.getElem?_toList,hbs,List.getElem?_append_left (by rw [List.getElem?_eq_some_iff] at hx';exact hx'.1)];exact hx'
     refine⟨x,hbx,hrx.mono hle,?_⟩
     obtain⟨b,_,rfl⟩:=List.mem_map.1 (List.mem_of_getElem? hx');rfl,fun k _ hk h=>by
      have h1:(bytesRow (bts l) C).size≤k:=h.1
      exact absurd hk (by show ¬k<(bytesRow (bts l) C).size;omega)⟩)
   rw [lT] at hrun hge
   exact⟨_,_,_,hrun,ji (o:=0) (n:=l.length) (k:=.un 1) (m:=C) (M.fE h.next ⟨w.heap.size,0,(bytesRow (bts l) C).size⟩) ⟨⟨hge,hgl⟩,by show 0+0+C*1=(bytesRow (bts l) C).size;rw [hsz];omega⟩,this.1,this.2.1⟩
  ·cases e
 ·cases e
theorem arK:∀{l:List V} {s:List Nat} {xs:List Value},qO l=some s→bZ M l xs→(∀b∈s,b<256)∧xs=(s.map fun(b:Nat)=>(b:Int)).map (Value.int .u8):=by
 intro l
 induction l with
 |nil=>intro s xs e hx;cases e;rw [show xs= [] from hx];simp
 |cons v l ih=>
  intro s xs e hx
  obtain⟨x,xt,hv,ht,rfl⟩:=hx
  simp only [qO] at e
  split at e
  ·rename_i k n
   split at e
   ·rename_i b hk
    split at e
    ·rename_i r hb hr'
     cases e
     obtain⟨g1,g2⟩:=ih hr' ht
     have hk':k=.u8:=KD (a:=k) (b:=.u8) hk
     subst hk'
     cases hv.int
     have hb':b<256:=by simpa [Nat.blt_eq] using hb
     refine⟨fun c hc=>?_,by rw [g2];rfl⟩
     rcases List.mem_cons.1 hc with rfl|hc
     ·exact hb'
     ·exact g1 c hc
    ·cases e
   ·cases e
  ·cases e
theorem fold_push:∀(s:List Nat) (acc:ByteArray),(s.map fun(b:Nat)=>(b:Int)).foldl (fun r n=>r.push (UInt8.ofNat n.toNat)) acc=acc++bts s:=by
 intro s
 induction s with
 |nil=>intro acc;apply ByteArray.ext;simp [bts]
 |cons b s ih=>
  intro acc
  simp only [List.map_cons,List.foldl_cons,Int.toNat_natCast]
  rw [ih]
  apply ByteArray.ext
  simp [bts]
theorem azc{s d el:TypeId}(hs:P.underlying s=some (.slice el))(hd:P.underlying d=some .string)(he:P.underlying el=some (.int .u8)){x:V}{a:Value}(hr:Rel G M h w)(hx:Rp M x a)(e:kY x h=.ok r h'):
  Good P G M h w (convert s d a) r h':=by
 unfold kY at e
 have he0:ByteArray.empty=bts []:=rfl
 split at e
 ·cases e
  cases hx.aG
  refine .same hr (c:=.string (bts [])) ?_ (Oh (by simp))
  rw [run_convert_bytes_string w s d el _ _ _ hs he hd]
  rfl
 ·cases e
  obtain⟨ad,k,rfl⟩:=hx.emp
  refine .same hr (c:=.string (bts [])) ?_ (Oh (by simp))
  rw [run_convert_bytes_string w s d el _ _ _ hs he hd]
  have:=run_bytesToString (P:=P) w ad 0 k [] (by rfl)
  exact this
 ·rename_i i o n cap
  obtain⟨L,m,hL,_,rfl⟩:=hx.slice
  obtain⟨wr,cs,hi,e1⟩:=gK e
  split at e1
  ·rename_i l hl
   split at e1
   ·rename_i t ht
    cases e1
    obtain⟨xs,hxl,hlen,hsx,hc⟩:=hr.cells hi hL hl
    obtain⟨g1,g2⟩:=arK ht hxl
    refine .same hr (c:=.string (bts t)) ?_ (Oh g1)
    rw [run_convert_bytes_string w s d el _ _ _ hs he hd]
    have hload:=run_loadCells_list (P:=P) w (L.at o) xs hc
    rw [hlen,g2] at hload
    have:=run_bytesToString (P:=P) w (L.at o) n m _ hload
    rw [this,fold_push]
    congr 2
   ·cases e1
  ·cases e1
 ·cases e
def auY(x:V)(h:Hp):R V:=match x with
 | .slice i o n c=>(match h.get i with
  |some ob=>(match ob with
   | .cells wr cs=>(match wr with| .rw _ _=>.ok (.slice i o n c) (h.put i (some (.cells .ro cs)))| .ro=>.bad)
   |_=>.bad)
  |none=>.bad)
 |_=>.bad
theorem aHM{s d el el':TypeId}(hsd:s=d)(hs:P.underlying s=some (.slice el))(hd:P.underlying d=some (.slice el'))(he:P.underlying el'=some (.int .u8)){x:V}{a:Value}(hr:Rel G M h w)(hx:Rp M x a)(e:auY x h=.ok r h'):
  Good P G M h w (convert s d a) r h':=by
 unfold auY at e
 split at e
 ·rename_i i o n c
  obtain⟨L,k,hL,hc,rfl⟩:=hx.slice
  split at e
  ·rename_i ob hob
   split at e
   ·rename_i wr cs
    split at e
    ·cases e
     obtain⟨L',hL',cc,el1,fr,hb,hsz,hcell,hfr⟩:=hr.ob i _ hob
     rw [hL] at hL';cases hL'
     have hbl:L.blk<w.heap.size:=(Array.getElem?_eq_some_iff.1 hb).1
     have hrun:(markStringish (L.at o)).run P w=.ok () (w.freeze ⟨L.blk,cc.size,none⟩ 1):=by
      have hshape:w.shape? L.blk=some (el1,cc.size):=by simp [World.shape?,hb]
      simp [markStringish,Loc.at,hshape]
     have ht:=hr.turn hob hL rfl (w':=w.freeze ⟨L.blk,cc.size,none⟩ 1) (o':=.cells .ro cs) (by simp [World.freeze]) (fun q hq=>by
      simp only [World.freeze]
      rw [if_neg (by omega),Array.getElem?_modify,if_neg (Ne.symm hq)]) rfl rfl rfl (by
      refine⟨cc,el1,(if fr.1==fr.2 then(cc.size,cc.size+1) else(min fr.1 cc.size,max fr.2 (cc.size+1))),?_,hsz,hcell,trivial⟩
      simp only [World.freeze]
      rw [if_neg (by omega),Array.getElem?_modify,if_pos rfl,hb]
      rfl)
     refine⟨_,_,M,?_,hx,ht.1,ht.2⟩
     subst hsd
     have hel:el=el':=by rw [hs] at hd;cases hd;rfl
     subst hel
     simp only [convert,Sem.run_bind,run_underlying hs,run_underlying he,Result.andThen_ok,beq_self_eq_true]
     rw [hrun]
     rfl
    ·cases e
   ·cases e
  ·cases e
 ·cases e
end
end Go.Vm

namespace Go.Vm
noncomputable section
variable{P:Program}{G:Nat}{M:Mp}{h h':Hp}{w:World}{r:V}
def aHU(l:List Nat):Nat:=List.rec (motive:=fun _=>Nat) 0 (fun _ _ ih=>Nat.succ ih) l
theorem aAw(l:List Nat):aHU l=l.length:=by induction l with|nil=>rfl|cons a t ih=>exact congrArg (· +1) ih
def aNL(l:List (V×V)):Nat:=List.rec (motive:=fun _=>Nat) 0 (fun _ _ ih=>Nat.succ ih) l
theorem aJ1(l:List (V×V)):aNL l=l.length:=by induction l with|nil=>rfl|cons a t ih=>exact congrArg (· +1) ih
def aCX(x:V)(h:Hp):R V:=match x with
 | .str s=>.ok (.int .i64 (.ofNat (aHU s))) h
 | .slice _ _ n _=>.ok (.int .i64 (.ofNat n)) h
 | .aG=>.ok (.int .i64 (.ofNat 0)) h
 | .emp=>.ok (.int .i64 (.ofNat 0)) h
 | .jQ=>.ok (.int .i64 (.ofNat 0)) h
 | .map i=>(match h.get i with|some (.map es)=>.ok (.int .i64 (.ofNat (aNL es))) h|_=>.bad)
 |_=>.bad
def zn(d:TypeDesc):Nat:=match d with
 | .string=>1| .slice _=>2| .map _ _=>3|_=>0
def Gs(k:Nat)(x:V):Bool:=match x with
 | .str _=>Nat.beq k 1
 | .slice _ _ _ _| .aG| .emp=>Nat.beq k 2
 | .jQ| .map _=>Nat.beq k 3
 |_=>false
def aY(k:Nat)(x:V)(h:Hp):R V:=match Gs k x with|true=>aCX x h|false=>.bad
theorem aNK{t ty:TypeId}{d:TypeDesc}(hd:P.underlying t=some d){x:V}{a:Value}(hr:Rel G M h w)(hx:Rp M x a)(e:aY (zn d) x h=.ok r h'):
  Good P G M h w (Builtin.len_ #[t] ty #[a]) r h':=by
 unfold aY at e
 split at e
 case h_2=>cases e
 rename_i hf
 cases x with
 |str s=>
  cases e
  cases hx.str.2
  have:d=.string:=by cases d<;>simp_all [Gs,zn]
  subst this
  rw [aAw]
  refine .same hr ?_ (iq M _ _)
  simp [Builtin.len_,run_underlying hd,lT,goInt]
 |slice i o n c=>
  cases e
  obtain⟨L,m,_,_,rfl⟩:=hx.slice
  have:∃el,d=.slice el:=by cases d<;>simp_all [Gs,zn]
  obtain⟨el,rfl⟩:=this
  refine .same hr ?_ (iq M _ _)
  simp [Builtin.len_,run_underlying hd,goInt]
 |aG=>
  cases e
  cases hx.aG
  have:∃el,d=.slice el:=by cases d<;>simp_all [Gs,zn]
  obtain⟨el,rfl⟩:=this
  refine .same hr ?_ (iq M _ _)
  simp [Builtin.len_,run_underlying hd,goInt]
 |emp=>
  cases e
  obtain⟨_,_,rfl⟩:=hx.emp
  have:∃el,d=.slice el:=by cases d<;>simp_all [Gs,zn]
  obtain⟨el,rfl⟩:=this
  refine .same hr ?_ (iq M _ _)
  simp [Builtin.len_,run_underlying hd,goInt]
 |jQ=>
  cases e
  cases hx.jQ
  have:∃k el,d=.map k el:=by cases d<;>simp_all [Gs,zn]
  obtain⟨k,el,rfl⟩:=this
  refine .same hr ?_ (iq M _ _)
  simp [Builtin.len_,run_underlying hd,goInt]
 |map i=>
  simp only [aCX] at e
  have:∃k el,d=.map k el:=by cases d<;>simp_all [Gs,zn]
  obtain⟨k,el,rfl⟩:=this
  split at e
  ·rename_i es hes
   cases e
   obtain⟨L,hL,rfl⟩:=hx.map
   obtain⟨L',hL',en,ck,hb,⟨l,hp,h1⟩,_⟩:=hr.ob i _ hes
   rw [hL] at hL';cases hL'
   have hlen:en.size=es.length:=by
    have e2:=h1.length
    have e3:=hp.length_eq
    simp at e3
    omega
   rw [aJ1]
   refine .same hr (c:=.int .i64 (.ofNat es.length)) ?_ (iq M _ _)
   have hg:(getObj L.blk).run P w=.ok (.map en ck) w:=by simp [getObj,Sem.run,hb]
   simp [Builtin.len_,run_underlying hd,goInt,hg,hlen]
  ·cases e
 |_=>cases e
def aAj(n:Nat)(h:Hp):R V:=.ok (.int .i64 (.ofNat n)) h
theorem aE3{t ty:TypeId}{n:Nat}{el:TypeId}(hd:P.underlying t=some (.array n el)){a:Value}(hr:Rel G M h w)(e:aAj n h=.ok r h'):
  Good P G M h w (Builtin.len_ #[t] ty #[a]) r h':=by
 cases e
 refine .same hr (c:=goInt n) ?_ (iq M _ _)
 simp [Builtin.len_,run_underlying hd]
def apO(x y:V)(h:Hp):R V:=asInt x fun k a=>asInt y fun _ b=>match vS a b with|true=>.ok (.int k a) h|false=>.ok (.int k b) h
def apP(x y:V)(h:Hp):R V:=asInt x fun k a=>asInt y fun _ b=>match vS b a with|true=>.ok (.int k a) h|false=>.ok (.int k b) h
theorem aNG{at_:Array TypeId}{ty:TypeId}{x y:V}{a b:Value}(hr:Rel G M h w)(hx:Rp M x a)(hy:Rp M y b)(e:apO x y h=.ok r h'):Good P G M h w (Builtin.min_ at_ ty #[a,b]) r h':=by
 obtain⟨k,n,rfl,e1⟩:=FQ e
 obtain⟨k',m,rfl,e2⟩:=FQ e1
 cases hx.int;cases hy.int
 rw [UH] at e2
 by_cases hle:n≤m
 ·rw [decide_eq_true hle] at e2;cases e2
  refine .same hr (c:=.int k n) ?_ (iq M _ _)
  have:¬m<n:=by omega
  simp [Builtin.min_,Builtin.min2,this]
 ·rw [decide_eq_false hle] at e2;cases e2
  refine .same hr (c:=.int k m) ?_ (iq M _ _)
  have:m<n:=by omega
  simp [Builtin.min_,Builtin.min2,this]
theorem aNH{at_:Array TypeId}{ty:TypeId}{x y:V}{a b:Value}(hr:Rel G M h w)(hx:Rp M x a)(hy:Rp M y b)(e:apP x y h=.ok r h'):Good P G M h w (Builtin.max_ at_ ty #[a,b]) r h':=by
 obtain⟨k,n,rfl,e1⟩:=FQ e
 obtain⟨k',m,rfl,e2⟩:=FQ e1
 cases hx.int;cases hy.int
 rw [UH] at e2
 by_cases hle:m≤n
 ·rw [decide_eq_true hle] at e2;cases e2
  refine .same hr (c:=.int k n) ?_ (iq M _ _)
  have:¬n<m:=by omega
  simp [Builtin.max_,Builtin.max2,this]
 ·rw [decide_eq_false hle] at e2;cases e2
  refine .same hr (c:=.int k m) ?_ (iq M _ _)
  have:n<m:=by omega
  simp [Builtin.max_,Builtin.max2,this]
end
end Go.Vm
