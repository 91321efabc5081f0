/- Part of the value machine, or of a walk by it: lemmas that the claim's last text uses. No conditions. -/
import Derived.Test.YtpgppmioigacoaaGreatDoorSlAI
import Derived.Laws.LoneSync
import Derived.Recover
import Derived.ProofKit
import Derived.OpenShut
import Derived.ShutString
import Derived.ChangeOld
import Derived.Below
set_option linter.unusedVariables false
set_option linter.unusedSimpArgs false
set_option linter.unnecessarySimpa false
namespace Go.Vm
noncomputable section
variable{P:Program}{G:Nat}
def levels(base:FuncId→Option Fun)(st:(FuncId→Option Fun)→FuncId→Option Fun):Nat→FuncId→Option Fun
 |0=>base
 |n+1=>st (levels base st n)
theorem arO{base:FuncId→Option Fun}{st:(FuncId→Option Fun)→FuncId→Option Fun}(hb:∀f F,base f=some F→aJ P G f F)
  (hs:∀e,(∀f F,e f=some F→aJ P G f F)→∀f F,st e f=some F→aJ P G f F):∀n f F,levels base st n f=some F→aJ P G f F
 |0=>hb
 |n+1=>hs _ (arO hb hs n)
def aCR(e:FuncId→Option Fun)(f:FuncId):Fun:=match e f with
 |some F=>F
 |none=>fun _ _=>.bad
theorem aHB{e:FuncId→Option Fun}(he:∀f F,e f=some F→aJ P G f F)(f:FuncId):aJ P G f (aCR e f):=by
 unfold aCR
 cases h:e f with
 |some F=>exact he f F h
 |none=>intro args h r h' M w cargs e;cases e
end
end Go.Vm

namespace Go.Vm
noncomputable section
open Go.ChangeShapes Go.WideShapes Go.ChangeAt Go.RowKit
variable{P:Program}{G:Nat}{M N:Mp}{h:Hp}{w:World}
theorem Seen.row(S:Seen G M h w){blk off:Nat}{cs:List V}(hne:cs≠ [])(hc:∀k v,cs[k]?=some v→∃x,w.cell? ⟨blk,off+k,none⟩=some x∧scalar x=true∧Rp M v x):
  ∃sz,Seen G (M.add h.next ⟨blk,off,sz⟩) (h.new (.cells .ro cs)) w∧M.le (M.add h.next ⟨blk,off,sz⟩):=by
 have hnone:M h.next=none:=S.rel.fresh _ (Nat.le_refl _)
 obtain⟨v0,hv0⟩:∃v,cs[0]?=some v:=by
  cases cs with
  |nil=>exact absurd rfl hne
  |cons v l=>exact⟨v,rfl⟩
 obtain⟨x0,hx0,-,-⟩:=hc 0 v0 hv0
 obtain⟨c,el,fr,hb⟩:∃c el fr,w.heap[blk]?=some (.cells c el fr):=by
  unfold World.cell? at hx0
  split at hx0
  ·rename_i c el fr hb;exact⟨c,el,fr,hb⟩
  ·cases hx0
 have hle:=Mp.UG hnone ⟨blk,off,c.size⟩
 refine⟨c.size,⟨⟨fun i p hi=>?_,fun i hi=>?_,fun i j p q L K hn hi hj hp hL hK=>?_,fun g hg=>?_⟩,fun i o hi=>?_⟩,hle⟩
 ·by_cases e:i=h.next
  ·subst e
   rw [h.qP] at hi
   cases hi
   refine⟨_,M.fE _ _,c,el,fr,hb,rfl,fun k v hk=>?_,trivial⟩
   obtain⟨x,hx,hs,hr⟩:=hc k v hk
   refine⟨x,?_,hr.mono hle,hs⟩
   simpa [World.cell?,hb] using hx
  ·rw [h.jy e] at hi
   obtain⟨L,hL,hr⟩:=S.rel.ob i p hi
   exact⟨L,by rw [M.gJ e];exact hL,hr.mono hle⟩
 ·have hs:(h.new (.cells .ro cs)).next.nat=h.next.nat+1:=Pos.eY _
  rw [hs] at hi
  have e:i≠h.next:=fun e=>by rw [e] at hi;omega
  rw [M.gJ e]
  exact S.rel.fresh i (by omega)
 ·have ei:i≠h.next:=by
   intro e;subst e
   rw [h.qP] at hi;cases hi;cases hp
  rw [h.jy ei] at hi
  have:=S.un i p hi
  rw [hp] at this;cases this
 ·obtain⟨z,hz⟩:=S.rel.gl g hg
  exact⟨z,hle _ _ hz⟩
 ·by_cases e:i=h.next
  ·subst e;rw [h.qP] at hi;cases hi;rfl
  ·rw [h.jy e] at hi;exact S.un i o hi
section
variable{H:Type}{enc:TypeId×Value→H}{base:Nat}{spare:Nat→Bool}{held:Bool}
theorem aER{t e n fuel:Nat}{x:DataW H×List MemPlace}{cs:List Value}(ht:P.underlying t=some (.slice e))(hn:P.cellsOf e=n)(hn0:0<n){Q:List V→Prop}
  (rd:∀fuel cs x,DataW.trod enc P w base spare held fuel e cs=some x→cs.length=n→∃vs,vs.length=n∧Q vs∧(∀N,bZ N vs cs)∧∀y∈cs,scalar y=true)
  (hd:DataW.trod enc P w base spare held fuel t cs=some x) (S:Seen G M h w):
  ∃(c:Value) (v:V) (M':Mp) (h':Hp) (els:List (List V)),cs= [c]∧Rp M' v c∧Seen G M' h' w∧M.le M'∧(∀vs∈els,Q vs∧vs.length=n)∧els.length≤9223372036854775807∧
   ((v=.aG∧h'=h∧els= [])∨(v=.emp∧h'=h∧els= [])∨(∃cap,v=.slice h.next 0 els.length (.kn cap)∧h'=h.new (.cells .ro els.flatten)∧0<els.length∧els.length≤cap)):=by
 rcases DataW.trod_slice ht hd with⟨rfl,rfl⟩|⟨a,len,cap,elems,rest,m,rfl,rfl,rfl,hb,hl,hm,hlen,hel,-,-⟩
 ·exact⟨_,.aG,M,h,[],rfl,⟨rfl,rfl⟩,S,Mp.le_refl _,fun _ h=>(by cases h),by simp,.inl ⟨rfl,rfl,rfl⟩⟩
 ·
  have each:∀i,i<len→∃vs,vs.length=n∧Q vs∧∀j v,vs[j]?=some v→∃x,w.cell? (a.add (i*n+j))=some x∧scalar x=true∧∀N,Rp N v x:=fun i hi=>by
   have h1:=hel i hi
   rw [hn,List.getElem?_eq_getElem (by omega),Option.bind_eq_some_iff] at h1
   obtain⟨cs',h2,h3⟩:=h1
   obtain⟨-,hl',hc'⟩:=World.cells?_some h2
   obtain⟨vs,hv1,hv2,hv3,hv4⟩:=rd m cs' _ h3 hl'
   refine⟨vs,hv1,hv2,fun j v hj=>?_⟩
   have hj':j<n:=by
    have:=(List.getElem?_eq_some_iff.1 hj).1
    omega
   have h5:(a.add (i*n)).add j=a.add (i*n+j):=by
    generalize i*n=p
    by_cases e1:p=0<;>by_cases e2:j=0<;>simp [Addr.add,e1,e2,Nat.add_assoc]
   have h4:=hc' j hj'
   rw [h5] at h4
   obtain⟨x,hx,hr⟩:=(hv3 M).get hj
   refine⟨x,by rw [h4,hx],hv4 x (List.mem_of_getElem? hx),fun N=>?_⟩
   obtain⟨x',hx',hr'⟩:=(hv3 N).get hj
   rw [hx] at hx';cases hx'
   exact hr'
  by_cases h0:len=0
  ·subst h0
   exact⟨_,.emp,M,h,[],rfl,⟨rfl,a,cap,rfl⟩,S,Mp.le_refl _,fun _ h=>(by cases h),by simp,.inr (.inl ⟨rfl,rfl,rfl⟩)⟩
  ·
   have all:∀l,l≤len→∃els:List (List V),els.length=l∧(∀vs∈els,Q vs∧vs.length=n)∧els.flatten.length=l*n∧∀k v,els.flatten[k]?=some v→∃x,w.cell? (a.add k)=some x∧scalar x=true∧∀N,Rp N v x:=by
    intro l
    induction l with
    |zero=>intro _;exact⟨[],rfl,fun _ h=>(by cases h),by simp,fun k v hk=>by simp at hk⟩
    |succ l ih=>
     intro hl'
     obtain⟨els,h1,h2,h3,h4⟩:=ih (by omega)
     obtain⟨vs,g1,g2,g3⟩:=each l (by omega)
     refine⟨els++ [vs],by simp [h1],fun us hu=>?_,by simp [h3,g1,Nat.succ_mul],fun k v hk=>?_⟩
     ·rcases List.mem_append.1 hu with hu|hu
      ·exact h2 us hu
      ·rw [List.mem_singleton.1 hu];exact⟨g2,g1⟩
     ·rw [List.flatten_append,List.getElem?_append] at hk
      split at hk
      ·exact h4 k v hk
      ·rename_i hge
       simp only [List.flatten_cons,List.flatten_nil,List.append_nil] at hk
       rw [h3] at hk hge
       have:=g3 (k - l*n) v hk
       rwa [show l*n+(k - l*n)=k from by omega] at this
   obtain⟨els,h1,h2,h3,h4⟩:=all len (Nat.le_refl _)
   have hne:els.flatten≠ []:=by
    intro e
    rw [e] at h3
    have:0<len*n:=Nat.mul_pos (by omega) hn0
    simp at h3;omega
   obtain⟨ab,ao,asp⟩:=a
   have has:asp=none:=by
    obtain⟨v0,hv0⟩:∃v,els.flatten[0]?=some v:=by
     cases hf:els.flatten with
     |nil=>exact absurd hf hne
     |cons v l=>exact⟨v,rfl⟩
    obtain⟨x,hx,-,-⟩:=h4 0 v0 hv0
    simpa [Addr.add] using World.cell?_spot hx
   subst has
   obtain⟨sz,S',hle⟩:=S.row (blk:=ab) (off:=ao) hne fun k v hk=>by
    obtain⟨x,hx,hs,hr⟩:=h4 k v hk
    have ea:(Addr.mk ab ao none).add k=⟨ab,ao+k,none⟩:=by by_cases e1:k=0<;>simp [Addr.add,e1]
    exact⟨x,by rw [←ea];exact hx,hs,hr M⟩
   refine⟨_,.slice h.next 0 len (.kn cap),_,_,els,rfl,⟨rfl,_,cap,M.fE _ _,⟨rfl,hl⟩,rfl⟩,S',hle,h2,by rw [h1];unfold maxLen at hm;omega,.inr (.inr ⟨cap,by rw [h1],rfl,by omega,by omega⟩)⟩
end
end
end Go.Vm

namespace Go.Vm
noncomputable section
def aIe:Fn→Fn→Bool
 | .func g,x=>(match x with| .func k=>Nat.beq g k|_=>false)
 |_,_=>false
theorem aKh{f g:Fn}(h:aIe f g=true):f=g:=by
 unfold aIe at h
 split at h
 ·split at h
  ·rw [Nat.eq_of_beq_eq_true h]
  ·cases h
 ·cases h
def lI:V→V→Bool
 | .func f a b,x=>(match x with| .func g c d=>(match aIe f g with|true=>(match lI a c with|true=>lI b d|false=>false)|false=>false)|_=>false)
 | .agg l,x=>(match x with| .agg k=>lI l k|_=>false)
 | .tuple l,x=>(match x with| .tuple k=>lI l k|_=>false)
 | .iface t v,x=>(match x with| .iface u w=>(match Nat.beq t u with|true=>lI v w|false=>false)|_=>false)
 | .cons a b,x=>(match x with| .cons c d=>(match lI a c with|true=>lI b d|false=>false)|_=>false)
 |v,x=>eqV v x
theorem wB:∀(a b:V),lI a b=true→a=b
 | .func f a b,x,h=>by
  simp only [lI] at h
  split at h
  ·split at h
   ·rename_i e1
    split at h
    ·rename_i e2
     rw [aKh e1,wB a _ e2,wB b _ h]
    ·cases h
   ·cases h
  ·cases h
 | .agg l,x,h=>by
  simp only [lI] at h
  split at h
  ·rw [wB l _ h]
  ·cases h
 | .tuple l,x,h=>by
  simp only [lI] at h
  split at h
  ·rw [wB l _ h]
  ·cases h
 | .iface t v,x,h=>by
  simp only [lI] at h
  split at h
  ·split at h
   ·rename_i e1
    rw [Nat.eq_of_beq_eq_true e1,wB v _ h]
   ·cases h
  ·cases h
 | .cons a b,x,h=>by
  simp only [lI] at h
  split at h
  ·split at h
   ·rename_i e2
    rw [wB a _ e2,wB b _ h]
   ·cases h
  ·cases h
 | .bool _,x,h=>by unfold lI at h;exact uf h
 | .int _ _,x,h=>by unfold lI at h;exact uf h
 | .str _,x,h=>by unfold lI at h;exact uf h
 | .ptr _ _,x,h=>by unfold lI at h;exact uf h
 | .bY,x,h=>by unfold lI at h;exact uf h
 | .slice _ _ _ _,x,h=>by unfold lI at h;exact uf h
 | .aG,x,h=>by unfold lI at h;exact uf h
 | .emp,x,h=>by unfold lI at h;exact uf h
 | .map _,x,h=>by unfold lI at h;exact uf h
 | .jQ,x,h=>by unfold lI at h;exact uf h
 | .gG,x,h=>by unfold lI at h;exact uf h
 | .oJ,x,h=>by unfold lI at h;exact uf h
 | .nil,x,h=>by unfold lI at h;exact uf h
def eqL:List V→List V→Bool
 | [],x=>(match x with| []=>true|_::_=>false)
 |a::l,x=>(match x with| []=>false|b::k=>(match lI a b with|true=>eqL l k|false=>false))
theorem ane:∀{l k:List V},eqL l k=true→l=k
 | [],k,h=>by cases k with
  |nil=>rfl
  |cons a k=>cases h
 |a::l,k,h=>by
  cases k with
  |nil=>cases h
  |cons b k=>
   simp only [eqL] at h
   split at h
   ·rename_i e;rw [wB _ _ e,ane h]
   ·cases h
def aDo:List (V×V)→List (V×V)→Bool
 | [],x=>(match x with| []=>true|_::_=>false)
 |a::l,x=>(match x with| []=>false|b::k=>(match lI a.1 b.1,lI a.2 b.2 with|true,true=>aDo l k|_,_=>false))
theorem aAI:∀{l k:List (V×V)},aDo l k=true→l=k
 | [],k,h=>by cases k with
  |nil=>rfl
  |cons a k=>cases h
 |a::l,k,h=>by
  cases k with
  |nil=>cases h
  |cons b k=>
   simp only [aDo] at h
   split at h
   ·rename_i e1 e2
    obtain⟨a1,a2⟩:=a
    obtain⟨b1,b2⟩:=b
    have e1:=wB _ _ e1
    have e2:=wB _ _ e2
    simp only at e1 e2
    rw [e1,e2,aAI h]
   ·cases h
def aIc:Wr→Wr→Bool
 | .ro,x=>(match x with| .ro=>true| .rw _ _=>false)
 | .rw t f,x=>(match x with| .ro=>false| .rw u g=>(match Nat.beq t u with|true=>(match f,g with|true,true=>true|false,false=>true|true,false=>false|false,true=>false)|false=>false))
theorem aKf{a b:Wr}(h:aIc a b=true):a=b:=by
 cases a with
 |ro=>cases b with
  |ro=>rfl
  |rw t f=>cases h
 |rw t f=>cases b with
  |ro=>cases h
  |rw u g=>
   simp only [aIc] at h
   split at h
   ·rename_i e
    rw [Nat.eq_of_beq_eq_true e]
    cases f<;>cases g<;>first|rfl|cases h
   ·cases h
def avK(a b:Ob):Bool:=match a with
 | .cells w l=>(match b with| .cells u k=>(match aIc w u with|true=>eqL l k|false=>false)|_=>false)
 | .bytes l=>(match b with| .bytes k=>eqL l k|_=>false)
 | .map l=>(match b with| .map k=>aDo l k|_=>false)
 |_=>false
theorem aAH{a b:Ob}(h:avK a b=true):a=b:=by
 unfold avK at h
 split at h
 ·split at h
  ·split at h
   ·rename_i e;rw [aKf e,ane h]
   ·cases h
  ·cases h
 ·split at h
  ·rw [ane h]
  ·cases h
 ·split at h
  ·rw [aAI h]
  ·cases h
 ·cases h
end
end Go.Vm

namespace Go.Vm
noncomputable section
variable{P:Program}{G:Nat}
def avZ(c:Nat):List Nat→Nat
 | []=>0
 |d::l=>(match Nat.beq d c with|true=>Nat.succ (avZ c l)|false=>avZ c l)
theorem aAR{c:Nat}(hc:c<256):∀{l:List Nat},(∀b∈l,b<256)→avZ c l=Go.Lib.countByte (l.map UInt8.ofNat) (UInt8.ofNat c)
 | [],_=>rfl
 |d::l,h=>by
  have hd:=h d (by simp)
  have ih:=aAR hc (l:=l) fun b hb=>h b (by simp [hb])
  have e:(UInt8.ofNat d==UInt8.ofNat c)=Nat.beq d c:=by
   rw [Bool.eq_iff_iff]
   simp only [beq_iff_eq]
   exact⟨fun h=>by rw [Hw hd hc h];exact Nat.beq_refl c,fun h=>by rw [Nat.eq_of_beq_eq_true h]⟩
  unfold Go.Lib.countByte at ih⊢
  rw [List.map_cons,List.count_cons,e]
  simp only [avZ]
  cases Nat.beq d c<;>simp [ih]
def cntF:Fun:=fun args h=>match args with
 | [s,c]=>(match s with
  | .str l=>(match c with
   | .int k n=>(match Nat.beq (kix k) 4 with
    |true=>(match n with
     | .ofNat b=>(match Nat.blt b 256 with|true=>iw .i64 (.ofNat (avZ b l)) h|false=>.bad)
     | .negSucc _=>.bad)
    |false=>.bad)
   |_=>.bad)
  |_=>.bad)
 |_=>.bad
theorem aKq{f:FuncId}{fn:Func}(hf:P.funcs[f]?=some fn)(hname:(fn.name== "runtime.NumGoroutine")=false)(hb:fn.body.isNone=true)(hn:Extern.findNext fn=none)(he:Extern.find fn=some Extern.BytealgCount.count):aJ P G f cntF:=by
 intro args h r h' M w cargs e hr hargs
 unfold cntF at e
 split at e
 ·rename_i s c
  split at e
  ·rename_i l
   split at e
   ·rename_i k n
    split at e
    ·rename_i hk
     have hk':k=.u8:=by cases k<;>first|rfl|cases hk
     subst hk'
     split at e
     ·rename_i b
      split at e
      ·rename_i hb2
       have hb3:b<256:=by simpa [Nat.blt_eq] using hb2
       obtain⟨cs,x1,hcs,⟨cc,x2,hcc,hx2,rfl⟩,rfl⟩:=hargs
       rw [show x2= [] from hx2]
       obtain⟨hl,rfl⟩:=hcs.str
       have hcc':=hcc.int
       subst hcc'
       rw [fP] at e
       cases e
       rw [run_callFunc_extern hf hname hb hn he,Go.Lib.run_countString]
       simp only [Result.andThen,Opq]
       refine⟨M,?_,hr,.refl hr⟩
       have e1:(bts l).data.toList=l.map UInt8.ofNat:=by simp [bts]
       have e2:((Int.ofNat b).toNat.toUInt8)=UInt8.ofNat b:=rfl
       rw [e1,e2,←aAR hb3 hl]
       exact iq M _ _
      ·cases e
     ·cases e
    ·cases e
   ·cases e
  ·cases e
 ·cases e
end
end Go.Vm

namespace Go.Vm
noncomputable section
variable{P:Program}{G N:Nat}{M M':Mp}{h h':Hp}{w w':World}{keep:Nat→Bool}{e:FuncId→Option Fun}
theorem Pos.Uz(p:Pos):Pos.of p.nat=p:=Pos.wu (Pos.gU _)
def atL:Obj→Bool
 | .loop _=>true
 | .deferred _=>true
 |_=>false
theorem jZ.hidden{L:Loc}{o:Ob}(hr:jZ M L w o){b:Obj}(hb:w.heap[L.blk]?=some b):atL b=false:=by
 cases o with
 |cells wr cs=>obtain⟨c,el,fr,a,_⟩:=hr;rw [a] at hb;cases hb;rfl
 |map es=>obtain⟨en,ck,a,_⟩:=hr;rw [a] at hb;cases hb;rfl
 |iter s p=>rw [hr.2] at hb;cases hb;rfl
 |bytes cs=>obtain⟨c,el,fr,a,_⟩:=hr;rw [a] at hb;cases hb;rfl
theorem Rel.hidden(hr:Rel G M h w){b:Nat}{ob:Obj}(hb:w.heap[b]?=some ob)(hh:atL ob=true){i:Pos}{o:Ob}{L:Loc}(hi:h.get i=some o)(hL:M i=some L):L.blk≠b:=by
 intro e
 subst e
 obtain⟨L',hL',ho⟩:=hr.ob i o hi
 rw [hL] at hL';cases hL'
 rw [ho.hidden hb] at hh;cases hh
theorem Rel.kept(hr:Rel G M h w)(x:Ext M h w M' h' w'){b:Nat}{ob:Obj}(hb:w.heap[b]?=some ob)(hh:atL ob=true):w'.heap[b]?=some ob:=by
 rw [x.same b (Array.getElem?_eq_some_iff.1 hb).1 fun i o L hi _ hL=>hr.hidden hb hh hi hL]
 exact hb
theorem Rel.putObj(hr:Rel G M h w){b:Nat}{ob:Obj}(hb:w.heap[b]?=some ob)(hh:atL ob=true)(o':Obj):Rel G M h (w.putObj b o'):=by
 refine⟨fun i o hi=>?_,hr.fresh,hr.sep,hr.gl⟩
 obtain⟨L,hL,ho⟩:=hr.ob i o hi
 exact⟨L,hL,ho.of_block (World.putObj_heap_other (hr.hidden hb hh hi hL))⟩
theorem Rel.UN(hr:Rel G M h w)(ob:Obj):Rel G M h (w.alloc ob):=by
 refine⟨fun i o hi=>?_,hr.fresh,hr.sep,hr.gl⟩
 obtain⟨L,hL,ho⟩:=hr.ob i o hi
 refine⟨L,hL,ho.of_block ?_⟩
 show(w.heap.push ob)[L.blk]?=w.heap[L.blk]?
 rw [Array.getElem?_push,if_neg (by have:=ho.lt;omega)]
theorem Ext.putObj{M0:Mp}{h0:Hp}{w0:World}(x:Ext M0 h0 w0 M h w){b:Nat}(hb:w0.heap.size≤b)(o':Obj):Ext M0 h0 w0 M h (w.putObj b o'):=
 ⟨x.le,x.next,x.os,x.tape,x.output,by rw [World.putObj_size];exact x.size,fun k hk hno=>by rw [World.putObj_heap_other (by omega)];exact x.same k hk hno,x.own,x.old,x.all,x.none⟩
theorem Ext.UN{M0:Mp}{h0:Hp}{w0:World}(x:Ext M0 h0 w0 M h w)(ob:Obj):Ext M0 h0 w0 M h (w.alloc ob):=
 ⟨x.le,x.next,x.os,x.tape,x.output,by have:=x.size;show w0.heap.size≤(w.heap.push ob).size;rw [Array.size_push];omega,fun k hk hno=>by
  rw [←x.same k hk hno]
  show(w.heap.push ob)[k]?=w.heap[k]?
  have:=x.size
  rw [Array.getElem?_push,if_neg (by omega)],x.own,x.old,x.all,x.none⟩
theorem aFv(hr:Rel G M h w)(L:Loc):Rel G (M.add h.next L) (aH 1 h) w∧Ext M h w (M.add h.next L) (aH 1 h) w:=by
 have hnone:M h.next=none:=hr.fresh _ (Nat.le_refl _)
 have hle:=Mp.UG hnone L
 have hnx:(aH 1 h).next=h.next.succ:=rfl
 have hg:∀i,(aH 1 h).get i=h.get i:=fun _=>rfl
 refine⟨⟨fun i o hi=>?_,fun i hi=>?_,fun i j o p A B hn hi hj ho hA hB=>?_,fun g hgl=>?_⟩,⟨hle,?_,rfl,rfl,rfl,Nat.le_refl _,fun _ _ _=>rfl,fun i o A hi ho hA=>?_,fun i _ hn=>hn,fun i o A hi hA=>?_,fun i hi hn=>?_⟩⟩
 ·obtain⟨A,hA,ho⟩:=hr.ob i o hi
  exact⟨A,hle _ _ hA,ho.mono hle⟩
 ·rw [hnx,Pos.eY] at hi
  rw [M.gJ (fun e=>by rw [e] at hi;omega)]
  exact hr.fresh i (by omega)
 ·obtain⟨A',hA',_⟩:=hr.ob i o hi
  obtain⟨B',hB',_⟩:=hr.ob j p hj
  rw [M.gJ (hr.ne_next hA')] at hA
  rw [M.gJ (hr.ne_next hB')] at hB
  exact hr.sep i j o p A B hn hi hj ho hA hB
 ·obtain⟨n,hn⟩:=hr.gl g hgl
  exact⟨n,hle _ _ hn⟩
 ·rw [hnx,Pos.eY];omega
 ·obtain⟨A',hA',_⟩:=hr.ob i o hi
  rw [M.gJ (hr.ne_next hA')] at hA
  exact .inr ⟨i,o,A,hi,ho,hA,rfl⟩
 ·obtain⟨A',hA',_⟩:=hr.ob i o hi
  rw [M.gJ (hr.ne_next hA')] at hA
  exact .inr ⟨i,o,A,hi,hA,rfl⟩
 ·rw [M.gJ (fun e=>by rw [e] at hi;omega)];exact hn
inductive Jmp where
 |ret
 |ex (i:Nat)
def Jmp.code:Jmp→Code
 | .ret=>.ret
 | .ex i=>.exit i
inductive YR where
 |go (h:Hp)
 |stop (j:Jmp) (h:Hp)
 |bad
def xB(L:Loop)(p:Option Jmp):Loop:={L with state:=(match p with|none=>.ready|some _=>.done),pending:=p.map Jmp.code}
structure Rng where
 M:Mp
 h:Hp
 w:World
 kp:Pos
 l:Nat
 L:Loop
structure Goes (B:Rng) (p:Option Jmp) (M:Mp) (h:Hp) (w:World):Prop where
 ext:Ext B.M B.h B.w M h w
 ky:M B.kp=some ⟨B.l,0,0⟩
 hl:B.w.heap.size<B.l
 st:w.heap[B.l]?=some (.loop (xB B.L p))
 mrk:w.heap[B.w.heap.size]?=some (.deferred (some []))
theorem Goes.step{B:Rng}{p:Option Jmp}(g:Goes B p M h w)(hr:Rel G M h w)(x:Ext M h w M' h' w'):Goes B p M' h' w':=
 ⟨g.ext.trans x,x.le _ _ g.ky,g.hl,hr.kept x g.st rfl,hr.kept x g.mrk rfl⟩
def ahv(keep:Nat→Bool):List Nat→List V→F→Option F
 | [],x,fr=>(match x with| []=>some fr|_::_=>none)
 |t::ts,x,fr=>(match x with
  | []=>none
  |v::vs=>(match keep t with|true=>ahv keep ts vs (fr.set (some v) (Pos.of t))|false=>none))
def tC(keep:Nat→Bool)(ps:List Nat)(Da Db:F→Hp→Out)(fr:F)(args:List V)(h:Hp):YR:=match ahv keep ps args fr with
 |none=>.bad
 |some fr=>(match Da fr h with
  | .nor fr h=>(match Db fr h with
   | .nor _ h=>.go h
   | .ret _ h=>.stop .ret h
   | .ex i _ h=>.stop (.ex i) h
   | .bad=>.bad)
  |_=>.bad)
def aNY(Rq:Option Jmp→Hp→Prop):YR→Prop
 | .go h=>Rq none h
 | .stop j h=>Rq (some j) h
 | .bad=>False
theorem auo{keep:Nat→Bool}:∀{ps:List Nat} {args:List V} {cargs:List Value} {fr fr':F} {tmps:Array Value},ahv keep ps args fr=some fr'→(∀t∈ps,t<tmps.size)→bZ M args cargs→
  Nq keep M fr {tmps:=tmps,defers:= []}→
  cargs.length=ps.length∧Nq keep M fr' {tmps:=(ps.zip cargs).foldl (fun tmps (t,a)=>tmps.setIfInBounds t a) tmps,defers:= []}∧((ps.zip cargs).foldl (fun tmps (t,a)=>tmps.setIfInBounds t a) tmps).size=tmps.size
 | [],args,cargs,fr,fr',tmps,e0,_,ha,hf=>by
  cases args with
  |nil=>cases e0;cases(show cargs= [] from ha);exact⟨rfl,hf,rfl⟩
  |cons v vs=>cases e0
 |t::ts,args,cargs,fr,fr',tmps,e0,hlt,ha,hf=>by
  cases args with
  |nil=>cases e0
  |cons v vs=>
   obtain⟨c,cs,rfl,hv,hvs⟩:=bZ.cons_inv ha
   simp only [ahv] at e0
   cases hk:keep t with
   |false=>rw [hk] at e0;cases e0
   |true=>
    rw [hk] at e0
    have ht:t<tmps.size:=hlt t (by simp)
    have hf':Nq keep M (fr.set (some v) (Pos.of t)) {tmps:=tmps.setIfInBounds t c,defers:= []}:=by
     intro u x hx
     by_cases hu:u=t
     ·subst hu
      rw [T.oK] at hx;cases hx
      refine⟨hk,?_⟩
      simp only [Array.getD_eq_getD_getElem?]
      rw [Array.getElem?_setIfInBounds_self_of_lt ht]
      exact hv
     ·rw [T.tY _ (fun e=>hu (Pos.aeT e))] at hx
      obtain⟨a1,a2⟩:=hf u x hx
      refine⟨a1,?_⟩
      simp only [Array.getD_eq_getD_getElem?] at a2⊢
      rw [Array.getElem?_setIfInBounds_ne (Ne.symm hu)]
      exact a2
    obtain⟨b1,b2,b3⟩:=auo (tmps:=tmps.setIfInBounds t c) e0 (fun u hu=>by rw [Array.size_setIfInBounds];exact hlt u (by simp [hu])) hvs hf'
    refine⟨by simp [b1],by simpa using b2,?_⟩
    have:(((t::ts).zip (c::cs)).foldl (fun tmps (t,a)=>tmps.setIfInBounds t a) tmps)=((ts.zip cs).foldl (fun tmps (t,a)=>tmps.setIfInBounds t a) (tmps.setIfInBounds t c)):=by simp
    rw [this,b3,Array.size_setIfInBounds]
theorem aHw{B:Rng}{fr0:F}{Da Db:F→Hp→Out}(hA:eF P keep G N B.L.assign Da)(hB:eF P keep G N B.L.body Db)(hf:Nq keep B.M fr0 {tmps:=B.L.tmps,defers:= []})(hN:B.L.tmps.size=N)
  (hps:∀t∈B.L.params.toList,t<N) {args:List V} {cargs:List Value} (hr:Rel G M h w) (ha:bZ M args cargs) (g:Goes B none M h w) {n:Nat} {R:Ending→World→Prop}
  (hy:aNY (fun p h'=>∀M' w',M.le M'→Rel G M' h' w'→Goes B p M' h' w'→R (.returned (.bool p.isNone)) w') (tC keep B.L.params.toList Da Db fr0 args h)):
  cargs.toArray.size=B.L.params.size∧RoundIn (jb none) n P B.l B.L.fn ((B.L.params.zip cargs.toArray).foldl (fun tmps (t,a)=>tmps.setIfInBounds t a) B.L.tmps) B.L.assign B.L.body w R:=by
 unfold tC at hy
 cases e1:ahv keep B.L.params.toList args fr0 with
 |none=>rw [e1] at hy;exact hy.elim
 |some fr1=>
  rw [e1] at hy
  simp only [] at hy
  obtain⟨s1,s2,s3⟩:=auo (tmps:=B.L.tmps) e1 (fun t ht=>by rw [hN];exact hps t ht) ha (hf.mono g.ext.le)
  have hz:(B.L.params.zip cargs.toArray).foldl (fun tmps (t,a)=>tmps.setIfInBounds t a) B.L.tmps=(B.L.params.toList.zip cargs).foldl (fun tmps (t,a)=>tmps.setIfInBounds t a) B.L.tmps:=by
   rw [←Array.foldl_toList];simp
  refine⟨by simpa using s1,?_⟩
  rw [hz]
  refine roundIn_of_wpIn trivial ?_
  have at0:At keep G N [] M fr1 h {tmps:=(B.L.params.toList.zip cargs).foldl (fun tmps (t,a)=>tmps.setIfInBounds t a) B.L.tmps,defers:= []} w:=⟨hr,s2,by rw [s3,hN],rfl⟩
  have hwA:=hA (some B.l) n [] fr1 h M _ w (by intro e2;rw [e2] at hy;exact hy) at0
  refine wpIn_mono hwA ?_
  intro x a1 w1 q
  cases e2:Da fr1 h with
  |bad=>rw [e2] at hy;exact hy.elim
  |ret fr2 h2=>rw [e2] at hy;exact hy.elim
  |ex i fr2 h2=>rw [e2] at hy;exact hy.elim
  |nor fr2 h2=>
   rw [e2] at hy q
   simp only [] at hy
   cases x<;>simp only [jf] at q
   obtain⟨M1,at1,x1⟩:=q
   have g1:=g.step hr x1
   refine⟨_,run_beginRound g1.st rfl,?_⟩
   have hlt:B.l<w1.heap.size:=(Array.getElem?_eq_some_iff.1 g1.st).1
   have r2:=at1.rel.putObj g1.st rfl (.loop {xB B.L none with state:=.busy})
   have hst2:(w1.putObj B.l (.loop {xB B.L none with state:=.busy})).heap[B.l]?=some (.loop {xB B.L none with state:=.busy}):=World.putObj_heap_same hlt
   have hmk2:(w1.putObj B.l (.loop {xB B.L none with state:=.busy})).heap[B.w.heap.size]?=some (.deferred (some [])):=by
    rw [World.putObj_heap_other (by have:=g.hl;omega)];exact g1.mrk
   have hx2:=g1.ext.putObj (b:=B.l) (by have:=g.hl;omega) (.loop {xB B.L none with state:=.busy})
   generalize w1.putObj B.l (.loop {xB B.L none with state:=.busy})=w2 at r2 hst2 hmk2 hx2
   have at2:At keep G N [] M1 fr2 h2 a1 w2:=⟨r2,at1.fr,at1.size,at1.plain⟩
   have hwB:=hB (some B.l) n [] fr2 h2 M1 a1 w2 (by intro e3;rw [e3] at hy;exact hy) at2
   refine wpIn_mono hwB ?_
   intro y a3 w3 q3
   have fin:∀(p:Option Jmp) M3 h3,Rel G M3 h3 w3→Ext M1 h2 w2 M3 h3 w3→(Instr.endRound B.l (p.map Jmp.code)).run P w3=.ok (.bool p.isNone) (w3.putObj B.l (.loop (xB B.L p)))∧Rel G M3 h3 (w3.putObj B.l (.loop (xB B.L p)))∧Goes B p M3 h3 (w3.putObj B.l (.loop (xB B.L p))):=by
    intro p M3 h3 r3 x3
    have hst3:=r2.kept x3 hst2 rfl
    have hlt3:B.l<w3.heap.size:=(Array.getElem?_eq_some_iff.1 hst3).1
    refine⟨?_,r3.putObj hst3 rfl _,?_⟩
    ·rw [run_endRound _ hst3]
     cases p<;>rfl
    ·refine⟨(hx2.trans x3).putObj (by have:=g.hl;omega) _,x3.le _ _ g1.ky,g.hl,World.putObj_heap_same hlt3,?_⟩
     rw [World.putObj_heap_other (by have:=g.hl;omega)]
     exact r2.kept x3 hmk2 rfl
   cases e3:Db fr2 h2 with
   |bad=>rw [e3] at hy;exact hy.elim
   |nor fr3 h3=>
    rw [e3] at hy q3
    cases y<;>simp only [jf] at q3
    obtain⟨M3,at3,x3⟩:=q3
    obtain⟨f1,f2,f3⟩:=fin none M3 h3 at3.rel x3
    exact⟨_,_,f1,hy M3 _ (Mp.le_trans x1.le x3.le) f2 f3⟩
   |ret fr3 h3=>
    rw [e3] at hy q3
    cases y<;>simp only [jf] at q3
    obtain⟨M3,at3,x3⟩:=q3
    obtain⟨f1,f2,f3⟩:=fin (some .ret) M3 h3 at3.rel x3
    exact⟨_,_,f1,hy M3 _ (Mp.le_trans x1.le x3.le) f2 f3⟩
   |ex i fr3 h3=>
    rw [e3] at hy q3
    cases y<;>simp only [jf] at q3
    obtain⟨ej,M3,at3,x3⟩:=q3
    subst ej
    obtain⟨f1,f2,f3⟩:=fin (some (.ex _)) M3 h3 at3.rel x3
    exact⟨_,_,f1,hy M3 _ (Mp.le_trans x1.le x3.le) f2 f3⟩
end
end Go.Vm

namespace Go.Vm
noncomputable section
variable{P:Program}{G N:Nat}{M M':Mp}{h h':Hp}{w w':World}{keep:Nat→Bool}{e:FuncId→Option Fun}{B:Rng}
inductive OutI where
 |nor (fr:F) (h:Hp) (p:Option Jmp)
 |ret (fr:F) (h:Hp) (p:Option Jmp)
 |ex (i:Nat) (fr:F) (h:Hp) (p:Option Jmp)
 |bad
abbrev nP:=F→Hp→Option Jmp→OutI
def DZ(o:Out)(p:Option Jmp):OutI:=match o with
 | .nor fr h=>.nor fr h p
 | .ret fr h=>.ret fr h p
 | .ex i fr h=>.ex i fr h p
 | .bad=>.bad
def kR(D:F→Hp→Out):nP:=fun fr h p=>DZ (D fr h) p
def vC(a b:nP):nP:=fun fr h p=>match a fr h p with
 | .nor fr h p=>b fr h p
 | .ret fr h p=>.ret fr h p
 | .ex i fr h p=>.ex i fr h p
 | .bad=>.bad
def aIg(c:Operand)(a b:nP):nP:=fun fr h p=>match c with
 | .tmp t=>(match fr.get (Pos.of t) with
  |some v=>(match v with| .bool q=>(match q with|true=>a fr h p|false=>b fr h p)|_=>.bad)
  |none=>.bad)
 |_=>.bad
def afh(id:Nat)(b:nP):nP:=fun fr h p=>match b fr h p with
 | .nor fr h p=>.nor fr h p
 | .ret fr h p=>.ret fr h p
 | .ex i fr h p=>(match Nat.beq i id with|true=>.nor fr h p|false=>.ex i fr h p)
 | .bad=>.bad
def NE(b:nP)(n:Nat):nP:=
 Nat.rec (motive:=fun _=>nP) (fun _ _ _=>.bad) (fun _ ih fr h p=>match b fr h p with
  | .nor fr h p=>ih fr h p
  | .ret fr h p=>.ret fr h p
  | .ex i fr h p=>.ex i fr h p
  | .bad=>.bad) n
def aAy(o:Oper):Bool:=match o.op with
 | .call c=>(match c.callee with
  | .value f=>(match f with| .tmp _=>true|_=>false)
  |_=>false)
 |_=>false
def yIdx:List Oper→Option Nat
 | []=>none
 |o::l=>(match aAy o with
  |true=>some 0
  |false=>(match yIdx l with|some j=>some (j+1)|none=>none))
def avg(l:List Oper):Bool:=l.all fun o=>match o.guard with|none=>true|some _=>false
def aCr(o:Oper)(fr:F)(k:Nat):Option (List V):=match o.op with
 | .call c=>(match c.callee with
  | .value f=>(match SC fr (f::c.args.toList) with
   |some vs=>(match vs with
    |g::args=>(match g with
     | .func fn x y=>(match x,y with
      | .nil,.nil=>(match fn with
       | .yield k'=>(match Nat.beq k k' with|true=>some args|false=>none)
       |_=>none)
      |_,_=>none)
     |_=>none)
    | []=>none)
   |none=>none)
  |_=>none)
 |_=>none
def aHx(P:Program)(keep:Nat→Bool)(e:FuncId→Option Fun)(Y:List V→Hp→YR)(k:Nat)(ops:Array Oper):nP:=fun fr h p=>match p with
 |some _=>.bad
 |none=>(match yIdx ops.toList with
  |none=>.bad
  |some j=>(match ops[j]? with
   |none=>.bad
   |some o=>(match avg ops.toList with
    |false=>.bad
    |true=>(match lQ P keep e ops (ops.toList.take j) [] fr h with
     | .nor fr1 h1=>(match aCr o fr1 k with
      |none=>.bad
      |some args=>(match Y args h1 with
       | .go h2=>DZ (xM keep o.dst (.bool true) [] fr1 fun env fr=>lQ P keep e ops (ops.toList.drop (j+1)) env fr h2) none
       | .stop q h2=>DZ (xM keep o.dst (.bool false) [] fr1 fun env fr=>lQ P keep e ops (ops.toList.drop (j+1)) env fr h2) (some q)
       | .bad=>.bad))
     |_=>.bad))))
def yields:Code→Bool
 | .region _ ops _=>ops.toList.any aAy
 | .seq a b=>yields a||yields b
 | .cond _ a b=>yields a||yields b
 | .block _ b=>yields b
 | .loop b=>yields b
 | .scope b=>yields b
 |_=>false
def D5(P:Program)(G N:Nat)(keep:Nat→Bool)(e:FuncId→Option Fun)(pl:cO)(lf:Nat)(Y:List V→Hp→YR)(k:Nat):Code→nP
 | .seq a b=>(match yields (.seq a b) with
  |true=>vC (D5 P G N keep e pl lf Y k a) (D5 P G N keep e pl lf Y k b)
  |false=>kR (lS P G N keep e pl lf (.seq a b)))
 | .cond c a b=>(match yields (.cond c a b) with
  |true=>aIg c (D5 P G N keep e pl lf Y k a) (D5 P G N keep e pl lf Y k b)
  |false=>kR (lS P G N keep e pl lf (.cond c a b)))
 | .block id b=>(match yields (.block id b) with
  |true=>afh id (D5 P G N keep e pl lf Y k b)
  |false=>kR (lS P G N keep e pl lf (.block id b)))
 | .loop b=>(match yields (.loop b) with
  |true=>NE (D5 P G N keep e pl lf Y k b) lf
  |false=>kR (lS P G N keep e pl lf (.loop b)))
 | .region id ops d=>(match yields (.region id ops d) with
  |true=>(match d with|false=>aHx P keep e Y k ops|true=>fun _ _ _=>.bad)
  |false=>kR (lS P G N keep e pl lf (.region id ops d)))
 |c=>kR (lS P G N keep e pl lf c)
structure AtI (keep:Nat→Bool) (G N:Nat) (B:Rng) (p:Option Jmp) (M:Mp) (fr:F) (h:Hp) (a:Act) (w:World):Prop where
 at_:At keep G N [] M fr h a w
 goes:Goes B p M h w
def rV(keep:Nat→Bool)(G N:Nat)(B:Rng):OutI→Exit→Act→World→Prop
 | .nor fr h p,.normal,a,w=>∃M,AtI keep G N B p M fr h a w
 | .ret fr h p,.ret,a,w=>∃M,AtI keep G N B p M fr h a w
 | .ex i fr h p,.exit j,a,w=>j=i∧∃M,AtI keep G N B p M fr h a w
 |_,_,_,_=>False
def kM(P:Program)(keep:Nat→Bool)(G N:Nat)(B:Rng)(c:Code)(I:nP):Prop:=
 ∀n p fr h M a w,I fr h p≠ .bad→AtI keep G N B p M fr h a w→c.wpIn (jb none) n P (rV keep G N B (I fr h p)) a w
def YOk(P:Program)(G:Nat)(B:Rng)(Y:List V→Hp→YR):Prop:=
 ∀(args:List V) (cargs:List Value) (h:Hp) (M:Mp) (w:World) (n:Nat) (R:Ending→World→Prop),Rel G M h w→bZ M args cargs→Goes B none M h w→
  aNY (fun p h'=>∀M' w',M.le M'→Rel G M' h' w'→Goes B p M' h' w'→R (.returned (.bool p.isNone)) w') (Y args h)→
  cargs.toArray.size=B.L.params.size∧RoundIn (jb none) n P B.l B.L.fn ((B.L.params.zip cargs.toArray).foldl (fun tmps (t,a)=>tmps.setIfInBounds t a) B.L.tmps) B.L.assign B.L.body w R
theorem auN{p:Option Jmp}{Df:Unit}{M:Mp}{h:Hp}{w:World}(hr:Rel G M h w)(g:Goes B p M h w){o:Out}:∀x a' w',jf keep G N [] M h w o x a' w'→rV keep G N B (DZ o p) x a' w':=by
 intro x a' w' q
 cases o<;>cases x<;>simp only [jf] at q
 ·obtain⟨M',at',hx⟩:=q;exact⟨M',at',g.step hr hx⟩
 ·obtain⟨M',at',hx⟩:=q;exact⟨M',at',g.step hr hx⟩
 ·obtain⟨e1,M',at',hx⟩:=q;exact⟨e1,M',at',g.step hr hx⟩
theorem auO{o:Out}{p:Option Jmp}(hne:DZ o p≠ .bad):o≠ .bad:=fun e=>by rw [e] at hne;exact hne rfl
theorem kM.lift{c:Code}{D:F→Hp→Out}(hc:eF P keep G N c D):kM P keep G N B c (kR D):=fun n p fr h M a w hne at_=>
 wpIn_mono (hc none n [] fr h M a w (auO hne) at_.at_) (auN (Df:=()) at_.at_.rel at_.goes)
theorem kM.seq{c d:Code}{I J:nP}(hc:kM P keep G N B c I)(hd:kM P keep G N B d J):kM P keep G N B (.seq c d) (vC I J):=by
 intro n p fr h M a w hne at_
 refine wpIn_seq ?_
 unfold vC at hne⊢
 cases e1:I fr h p with
 |bad=>rw [e1] at hne;exact absurd rfl hne
 |nor fr1 h1 p1=>
  rw [e1] at hne
  refine wpIn_mono (hc n p fr h M a w (by rw [e1];simp) at_) ?_
  intro x a' w' q
  rw [e1] at q
  cases x<;>simp only [rV] at q
  obtain⟨M',at'⟩:=q
  exact hd n p1 fr1 h1 M' a' w' hne at'
 |ret fr1 h1 p1=>
  refine wpIn_mono (hc n p fr h M a w (by rw [e1];simp) at_) ?_
  intro x a' w' q
  rw [e1] at q
  cases x<;>simp only [rV] at q
  exact q
 |ex i fr1 h1 p1=>
  refine wpIn_mono (hc n p fr h M a w (by rw [e1];simp) at_) ?_
  intro x a' w' q
  rw [e1] at q
  cases x<;>simp only [rV] at q
  exact q
theorem kM.cond{x:Operand}{c d:Code}{I J:nP}(hc:kM P keep G N B c I)(hd:kM P keep G N B d J):kM P keep G N B (.cond x c d) (aIg x I J):=by
 intro n p fr h M a w hne at_
 cases x with
 |tmp t=>
  simp only [aIg] at hne⊢
  cases hv:fr.get (Pos.of t) with
  |none=>rw [hv] at hne;exact absurd rfl hne
  |some v=>
   rw [hv] at hne
   cases v<;>try exact absurd rfl hne
   rename_i q
   have hb:=(at_.at_.fr t _ hv).2.bool
   cases q
   ·exact wpIn_cond_false (show a.eval (.tmp t)=.bool false from hb) (hd n p fr h M a w hne at_)
   ·exact wpIn_cond_true (show a.eval (.tmp t)=.bool true from hb) (hc n p fr h M a w hne at_)
 |const c=>exact absurd rfl hne
 |global g=>exact absurd rfl hne
 |func f=>exact absurd rfl hne
theorem kM.block{id:Nat}{c:Code}{I:nP}(hc:kM P keep G N B c I):kM P keep G N B (.block id c) (afh id I):=by
 intro n p fr h M a w hne at_
 refine wpIn_block ?_
 unfold afh at hne⊢
 cases e1:I fr h p with
 |bad=>rw [e1] at hne;exact absurd rfl hne
 |nor fr1 h1 p1=>
  refine wpIn_mono (hc n p fr h M a w (by rw [e1];simp) at_) ?_
  intro x a' w' q
  rw [e1] at q
  cases x<;>simp only [rV] at q
  exact q
 |ret fr1 h1 p1=>
  refine wpIn_mono (hc n p fr h M a w (by rw [e1];simp) at_) ?_
  intro x a' w' q
  rw [e1] at q
  cases x<;>simp only [rV] at q
  exact q
 |ex i fr1 h1 p1=>
  refine wpIn_mono (hc n p fr h M a w (by rw [e1];simp) at_) ?_
  intro x a' w' q
  rw [e1] at q
  cases x<;>simp only [rV] at q
  obtain⟨rfl,q⟩:=q
  simp only [Exit.inBlock]
  cases hb:Nat.beq _ id with
  |true=>rw [if_pos (Nat.eq_of_beq_eq_true hb)];exact q
  |false=>rw [if_neg (Nat.ne_of_beq_eq_false hb)];exact⟨rfl,q⟩
theorem amY(b:nP)(n:Nat)(fr:F)(h:Hp)(p:Option Jmp):NE b (n+1) fr h p=(match b fr h p with
  | .nor fr h p=>NE b n fr h p
  | .ret fr h p=>.ret fr h p
  | .ex i fr h p=>.ex i fr h p
  | .bad=>.bad):=rfl
theorem kM.loop{c:Code}{I:nP}(hc:kM P keep G N B c I)(n:Nat):kM P keep G N B (.loop c) (NE I n):=by
 intro n0 p fr h M a w hne at_
 generalize hout:NE I n fr h p=out at hne
 let J:Nat→Act→World→Prop:=fun m a' w'=>∃fr' h' p' M',NE I m fr' h' p'=out∧AtI keep G N B p' M' fr' h' a' w'
 intro b k cs hro hb hrm
 have key:∀(n:Nat) a' w',J n a' w'→∃e a'' w'',rV keep G N B out e a'' w''∧ArrivesIn (Machine.fenced P (jb none)) P (lone (b.atR a' (.code c:: .inLoop c::k)) cs w') b k cs e a'' w'':=by
  intro n
  induction n with
  |zero=>rintro a' w' ⟨fr',h',p',M',e,-⟩;exact absurd e.symm hne
  |succ n ih=>
   rintro a' w' ⟨fr',h',p',M',e,at'⟩
   rw [amY] at e
   have hr:c.wpIn (jb none) n0 P (Exit.then (fun a w=>J n a w) (rV keep G N B out)) a' w':=by
    cases e1:I fr' h' p' with
    |bad=>rw [e1] at e;exact absurd e.symm hne
    |nor fr1 h1 p1=>
     rw [e1] at e
     refine wpIn_mono (hc n0 p' fr' h' M' a' w' (by rw [e1];simp) at') ?_
     intro x a2 w2 q
     rw [e1] at q
     cases x<;>simp only [rV] at q
     obtain⟨M2,at2⟩:=q
     exact⟨fr1,h1,p1,M2,e,at2⟩
    |ret fr1 h1 p1=>
     rw [e1] at e
     refine wpIn_mono (hc n0 p' fr' h' M' a' w' (by rw [e1];simp) at') ?_
     intro x a2 w2 q
     rw [e1] at q
     cases x<;>simp only [rV] at q
     subst e
     exact q
    |ex i fr1 h1 p1=>
     rw [e1] at e
     refine wpIn_mono (hc n0 p' fr' h' M' a' w' (by rw [e1];simp) at') ?_
     intro x a2 w2 q
     rw [e1] at q
     cases x<;>simp only [rV] at q
     subst e
     exact q
   obtain⟨x,a₁,w₁,hq,harr⟩:=hr b (.inLoop c::k) cs hro hb hrm
   cases x with
   |normal=>
    obtain⟨x2,a₂,w₂,hq₂,harr₂⟩:=ih a₁ w₁ hq
    exact⟨x2,a₂,w₂,hq₂,.of_steps (StepsIn.trans harr (.one (fenced_calm hb hrm rfl) stepR_inLoop)) harr₂⟩
   |exit id=>exact⟨_,a₁,w₁,hq,.pass (x:=.inLoop c) rfl (fun _ _=>.inl (by simp)) harr⟩
   |goto l=>exact⟨_,a₁,w₁,hq,.pass (x:=.inLoop c) rfl (fun _ _=>.inl (by simp)) harr⟩
   |ret=>exact⟨_,a₁,w₁,hq,.pass (x:=.inLoop c) rfl (fun _ _=>.inl (by simp)) harr⟩
   |panic ch=>exact⟨_,a₁,w₁,hq,.pass (x:=.inLoop c) rfl (fun _ _=>.inl (by simp)) harr⟩
   |outgrown=>exact⟨_,a₁,w₁,hq,.pass (x:=.inLoop c) rfl (fun _ _=>.inl (by simp)) harr⟩
 obtain⟨x,a',w',hq,harr⟩:=key n a w ⟨fr,h,p,M,hout,at_⟩
 exact⟨x,a',w',hq,.of_steps (.one (fenced_calm hb hrm rfl) stepR_loop) harr⟩
theorem aJK{ro:Option Nat}{n:Nat}{Df:List Deferred}(hE:∀f F,e f=some F→aJ P G f F){ops:Array Oper}{fr':F}{h':Hp}{Q:Exit→Act→World→Prop}{l2:List Nat}:
  ∀(l:List Nat) (env:Env) (fr:F) (h:Hp) (M:Mp) (a:Act) (w:World),(∀i∈l,∃o,ops[i]?=some o∧o.guard=none∧oH G N o=true)→At keep G N Df M fr h a w→lJ M env a→
   lQ P keep e ops (l.filterMap (ops[·]?)) env fr h=.nor fr' h'→
   (∀a' w' M',At keep G N Df M' fr' h' a' w'→Ext M h w M' h' w'→wpOpsIn (jb ro) n P ops Q l2 a' w')→wpOpsIn (jb ro) n P ops Q (l++l2) a w:=by
 intro l
 induction l with
 |nil=>
  intro env fr h M a w _ at_ _ e0 hK
  simp only [List.filterMap_nil,lQ] at e0
  cases e0
  exact hK a w M at_ (.refl at_.rel)
 |cons i l ih=>
  intro env fr h M a w hl at_ he e0 hK
  obtain⟨o,ho,hgi,hok⟩:=hl i (by simp)
  rw [List.cons_append]
  simp only [wpOpsIn,ho]
  rw [List.filterMap_cons_some ho] at e0
  unfold lQ at e0
  simp only [hgi] at e0
  have hw:Region.wanted o (yielded ops a.tmps)=true:=by simp [Region.wanted,hgi]
  simp only [hw,if_true]
  refine aEQ (Q:=fun _ _ _=>False) (fun _ _ h=>h) (fun _ _ _ h=>h.elim) (vY hok) (aeS hE hok (by simp) at_ he e0 ?_)
  intro env' fr2 h2 a' w' M' e1 at1 he1 hx
  exact ih env' fr2 h2 M' a' w' (fun j hj=>hl j (by simp [hj])) at1 he1 e1 fun a2 w2 M2 at2 hx2=>hK a2 w2 M2 at2 (hx.trans hx2)
theorem azV:∀{l:List Oper} {j:Nat},yIdx l=some j→j<l.length
 | [],j,h=>by cases h
 |o::l,j,h=>by
  simp only [yIdx] at h
  split at h
  ·cases h;simp
  ·split at h
   ·rename_i j' hj'
    cases h
    have:=azV hj'
    simp;omega
   ·cases h
theorem FO(ops:Array Oper):∀(n k:Nat),k+n≤ops.size→(List.range' k n).filterMap (ops[·]?)=(ops.toList.drop k).take n
 |0,k,_=>by simp
 |n+1,k,hk=>by
  rw [List.range'_succ,List.filterMap_cons_some (Array.getElem?_eq_getElem (by omega)),FO ops n (k+1) (by omega)]
  have hlt:k<ops.toList.length:=by simp;omega
  rw [List.drop_eq_getElem_cons hlt,List.take_succ_cons]
  simp
theorem kM.region(hE:∀f F,e f=some F→aJ P G f F){Y:List V→Hp→YR}(hY:YOk P G B Y){id:Nat}{ops:Array Oper}(hops:∀o∈ops.toList,oH G N o=true):kM P keep G N B (.region id ops false) (aHx P keep e Y B.kp.nat ops):=by
 intro n p fr h M a w hne at_
 refine wpIn_region ?_
 unfold aHx at hne⊢
 cases p with
 |some q=>exact absurd rfl hne
 |none=>
 simp only [] at hne⊢
 cases hj:yIdx ops.toList with
 |none=>rw [hj] at hne;exact absurd rfl hne
 |some j=>
 have hlt:j<ops.size:=by simpa using azV hj
 rw [hj] at hne
 simp only [] at hne⊢
 have ho:ops[j]?=some ops[j]:=Array.getElem?_eq_getElem hlt
 rw [ho] at hne⊢
 simp only [] at hne⊢
 cases hng:avg ops.toList with
 |false=>rw [hng] at hne;exact absurd rfl hne
 |true=>
 rw [hng] at hne
 simp only [] at hne⊢
 have hgd:∀o∈ops.toList,o.guard=none:=fun o hm=>by
  have:=List.all_eq_true.1 hng o hm
  split at this
  ·assumption
  ·cases this
 cases hpre:lQ P keep e ops (ops.toList.take j) [] fr h with
 |bad=>rw [hpre] at hne;exact absurd rfl hne
 |ret fr1 h1=>rw [hpre] at hne;exact absurd rfl hne
 |ex i fr1 h1=>rw [hpre] at hne;exact absurd rfl hne
 |nor fr1 h1=>
 rw [hpre] at hne
 simp only [] at hne⊢
 have hmem:∀{i:Nat} (hi:i<ops.size),ops[i]∈ops.toList:=fun hi=>by simp
 have hrange:List.range ops.size=List.range' 0 j++(j::List.range' (j+1) (ops.size - (j+1))):=by
  have h2:List.range' j (ops.size - j)=j::List.range' (j+1) (ops.size - (j+1)):=by
   rw [show ops.size - j=(ops.size - (j+1))+1 by omega,List.range'_succ]
  rw [←h2,List.range_eq_range']
  have:=List.range'_append (s:=0) (m:=j) (n:=ops.size - j) (step:=1)
  simp only [Nat.one_mul,Nat.zero_add] at this
  rw [this]
  congr 1
  omega
 rw [hrange]
 refine aJK hE (List.range' 0 j) [] fr h M a w (fun i hi=>?_) at_.at_ (lJ.nil M a) (by rw [FO ops j 0 (by omega)];exact hpre) ?_
 ·have hi':i<ops.size:=by
   have:=List.mem_range'.1 hi
   obtain⟨q,hq,rfl⟩:=this
   omega
  exact⟨ops[i],Array.getElem?_eq_getElem hi',hgd _ (hmem hi'),hops _ (hmem hi')⟩
 intro a1 w1 M1 at1 hx1
 have g1:=at_.goes.step at_.at_.rel hx1
 simp only [wpOpsIn,ho]
 have hw:Region.wanted ops[j] (yielded ops a1.tmps)=true:=by simp [Region.wanted,hgd _ (hmem hlt)]
 simp only [hw,if_true]
 have hokj:=hops _ (hmem hlt)
 have hndj:=vY hokj
 cases hya:aCr ops[j] fr1 B.kp.nat with
 |none=>rw [hya] at hne;exact absurd rfl hne
 |some args=>
 rw [hya] at hne
 simp only [] at hne⊢
 have hcall:∃cargs,bZ M1 args cargs∧∀{w'},(Instr.yield B.l cargs.toArray).run P w1=w'→(execOp a1.eval ops[j]).run P w1=w':=by
  unfold aCr at hya
  split at hya
  ·rename_i c hop
   split at hya
   ·rename_i f hcal
    split at hya
    ·rename_i vs hvs
     split at hya
     ·rename_i g avs
      split at hya
      ·rename_i fn x y
       split at hya
       ·split at hya
        ·rename_i k'
         split at hya
         ·rename_i hk
          cases hya
          have hk:=Nat.eq_of_beq_eq_true hk
          subst hk
          obtain⟨cg,cargs,q1,q2,q3⟩:=(Uy at1 hvs).cons_inv
          rw [List.map_cons] at q1
          cases q1
          obtain⟨g0,xs,ys,hg0,hx',hy',hf⟩:=q2.func
          obtain⟨L,hL,rfl⟩:=hg0
          rw [Pos.Uz,g1.ky] at hL
          cases hL
          cases(show xs= [] from hx')
          refine⟨_,q3,fun{w'} hw'=>?_⟩
          rw [←hw']
          have e2:(c.args.toList.map a1.eval).toArray=c.args.map a1.eval:=by apply Array.ext';simp
          rw [e2]
          simp only [execOp,hop,resolve,hcal,hf,Deferred.ofValue]
          simp [invoke]
         ·cases hya
        ·cases hya
       ·cases hya
      ·cases hya
     ·cases hya
    ·cases hya
   ·cases hya
  ·cases hya
 obtain⟨cargs,hcargs,hexec⟩:=hcall
 refine⟨fun _ _=>trivial,?_⟩
 rw [Oper.semAt_eq _ _ _ hndj]
 have after:∀(b:Bool) (p:Option Jmp) (h2:Hp),DZ (xM keep ops[j].dst (.bool b) [] fr1 fun env fr=>lQ P keep e ops (ops.toList.drop (j+1)) env fr h2) p≠ .bad→
   ∀M' w',M1.le M'→Rel G M' h2 w'→Goes B p M' h2 w'→wpOpsIn (jb none) n P ops (rV keep G N B (DZ (xM keep ops[j].dst (.bool b) [] fr1 fun env fr=>lQ P keep e ops (ops.toList.drop (j+1)) env fr h2) p)) (List.range' (j+1) (ops.size - (j+1))) (a1.put ops[j].dst (.bool b)) w':=by
  intro b p h2 hne2 M2 w2 hle hr2 g2
  have at2:At keep G N [] M2 fr1 h2 a1 w2:=⟨hr2,at1.fr.mono hle,at1.size,at1.plain⟩
  generalize hout:(xM keep ops[j].dst (.bool b) [] fr1 fun env fr=>lQ P keep e ops (ops.toList.drop (j+1)) env fr h2)=out at hne2
  obtain⟨env',fr',e1,at3,he3⟩:=ahV at2 (lJ.nil M2 a1) (H6 hokj) (zk M2 b) hout
  refine aCT (auN (Df:=()) hr2 g2) jf.atJ (fun o ho=>vY (hops o ho)) _ _ _ (aAb hE hops (auO hne2) _ env' fr' h2 M2 _ w2 (fun i hi=>?_) at3 he3 ?_)
  ·obtain⟨q,hq,rfl⟩:=List.mem_range'.1 hi
   omega
  ·rw [FO ops _ (j+1) (by omega),List.take_of_length_le (by simp)]
   exact e1
 have hRq:=hY args cargs h1 M1 w1 (n - 1) (fun
  | .returned v,w''=>wpOpsIn (jb none) n P ops (rV keep G N B (match Y args h1 with
   | .go h2=>DZ (xM keep ops[j].dst (.bool true) [] fr1 fun env fr=>lQ P keep e ops (ops.toList.drop (j+1)) env fr h2) none
   | .stop q h2=>DZ (xM keep ops[j].dst (.bool false) [] fr1 fun env fr=>lQ P keep e ops (ops.toList.drop (j+1)) env fr h2) (some q)
   | .bad=>.bad)) (List.range' (j+1) (ops.size - (j+1))) (a1.put ops[j].dst v) w''
  | .panicked _,_=>False
  | .outgrown,_=>False) at1.rel hcargs g1 (by
   cases hy:Y args h1 with
   |bad=>rw [hy] at hne;exact absurd rfl hne
   |go h2=>
    rw [hy] at hne
    exact fun M' w' hle hr' g'=>after true none h2 hne M' w' hle hr' g'
   |stop q h2=>
    rw [hy] at hne
    exact fun M' w' hle hr' g'=>after false (some q) h2 hne M' w' hle hr' g')
 rw [hexec (run_yield g1.st hRq.1)]
 rw [Oper.uponIn_round]
 refine⟨fun hx=>by simp [jb,Fence.wide] at hx,?_⟩
 refine RoundIn.mono hRq.2 ?_
 intro x w2 hx2
 cases x with
 |returned v=>exact hx2
 |panicked ch=>exact hx2.elim
 |outgrown=>exact hx2.elim
end
end Go.Vm
