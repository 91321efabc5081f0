/- Part of the value machine, or of a walk by it: lemmas that the claim's last text uses. No conditions. -/
import Derived.Test.YtpgppmioigacoaaGreatDoorSlAD
import Derived.Scope
import Derived.RangeFuncRecord
import Derived.RangeFuncCalls
set_option linter.unusedVariables false
set_option linter.unusedSimpArgs false
set_option linter.unnecessarySimpa false
namespace Go.Vm
noncomputable section
variable{P:Program}{G:Nat}{M:Mp}{h h':Hp}{w:World}{r:V}
abbrev Fun:=List V→Hp→R V
def Post(G:Nat)(M:Mp)(h:Hp)(w:World)(r:V)(h':Hp)(c:Value)(w':World):Prop:=∃M',Rp M' r c∧Rel G M' h' w'∧Ext M h w M' h' w'
def Opq(P:Program)(post:Value→World→Prop):Result Next→Prop
 | .ok (.value c) w'=>post c w'
 | .ok .skip w'=>post undef w'
 | .ok (.enter f args) w'=>Calls P f args w' fun e w''=>∃c,e=.returned c∧post c w''
 |_=>False
theorem Good.opq{s:Sem Value}(g:Good P G M h w s r h'):Opq P (Post G M h w r h') ((do pure (.value (←s)):Sem Next).run P w):=by
 obtain⟨c,w',M',e,g1,g2,g3⟩:=g
 simp [e]
 exact⟨M',g1,g2,g3⟩
def aJ(P:Program)(G:Nat)(f:FuncId)(F:Fun):Prop:=
 ∀(args:List V) (h:Hp) (r:V) (h':Hp) (M:Mp) (w:World) (cargs:List Value),F args h=.ok r h'→Rel G M h w→bZ M args cargs→
  Opq P (Post G M h w r h') ((callFunc f cargs.toArray).run P w)
def NM(P:Program)(el:TypeId):Option TypeInfo:=match P.info? el with
 |none=>none
 |some ti=>(match ti.zero with
  |none=>none
  |some z=>(match Nat.beq z.cells.size ti.size,z.cells.toList.all scalar,Nat.blt 0 ti.size,Nat.blt 0 ti.bytes with
   |true,true,true,true=>some ti
   |_,_,_,_=>none))
theorem Bg{el:TypeId}{ti:TypeInfo}(e:NM P el=some ti):∃z,ElemOk P el ti z:=by
 unfold NM at e
 split at e
 ·cases e
 ·rename_i ti' hi
  split at e
  ·cases e
  ·rename_i z hz
   split at e
   ·rename_i h1 h2 h3 h4
    cases e
    exact⟨z,hi,hz,Nat.eq_of_beq_eq_true h1,fun y hy=>List.all_eq_true.1 h2 y hy,by simpa [Nat.blt_eq] using h3,by simpa [Nat.blt_eq] using h4⟩
   ·cases e
def aaA(P:Program)(t:TypeId):Option (List V):=match P.info? t with
 |none=>none
 |some it=>(match it.zero with
  |none=>none
  |some z=>Ie z.cells.toList)
theorem Kv{t:TypeId}{zs:List V}(e:aaA P t=some zs):∃it z,P.info? t=some it∧it.zero=some z∧∀M:Mp,bZ M zs z.cells.toList∧∀y∈z.cells.toList,scalar y=true:=by
 unfold aaA at e
 split at e
 ·cases e
 ·rename_i it hit
  split at e
  ·cases e
  ·rename_i z hz
   exact⟨it,z,hit,hz,fun M=>Bj e M⟩
def ay6(P:Program)(fs:List Field):Option (List (Nat×Nat)):=fs.mapM fun f=>(P.info? f.type).map fun i=>(f.offset,i.size)
def aqn(d:TypeDesc):Bool:=match d with| .struct _| .array _ _=>true|_=>false
def apL(P:Program)(d:TypeDesc):Option Nat:=match d with
 | .pointer e=>(match P.info? e with|some ti=>some ti.size|none=>none)
 |_=>some 0
def dX(e:FuncId→Option Fun)(f:V)(args:List V)(h:Hp):R V:=match f with
 | .func fn a b=>(match fn with
  | .func g=>(match e g with|some F=>F (a.list++(args++b.list)) h|none=>.bad)
  |_=>.bad)
 |_=>.bad
def aaP(P:Program)(b:Builtin)(ts:List TypeId)(vs:List V)(h:Hp):R V:=
 match b,ts,vs with
 | .len,[t],[x]=>(match P.underlying t with
  |some (.array n _)=>aAj n h
  |some d=>aY (zn d) x h
  |none=>.bad)
 | .append,[t,t2],[s,x]=>(match P.underlying t,P.underlying t2 with
  |some (.slice el),some (.slice _)=>(match NM P el with|some ti=>bT el ti.size ti.bytes s x h|none=>.bad)
  |some (.slice el),some .string=>(match NM P el with|some ti=>bT el ti.size ti.bytes s x h|none=>.bad)
  |some (.slice el),some (.int _)=>(match NM P el with
   |some ti=>(match ti.zero with
    |some z=>(match Ie z.cells.toList with|some zs=>avf el ti.size ti.bytes zs s x h|none=>.bad)
    |none=>.bad)
   |none=>.bad)
  |_,_=>.bad)
 | .cap,[t],[x]=>(match P.underlying t with
  |some (.slice _)=>apR x h
  |_=>.bad)
 | .copy,[t,_],[x,y]=>(match P.underlying t with
  |some (.slice el)=>(match P.info? el with|some ti=>amQ ti.size x y h|none=>.bad)
  |_=>.bad)
 | .unsafeSliceData,_,[x]=>Dk x h
 | .unsafeString,[pt,_],[x,y]=>(match P.underlying pt with
  |some (.pointer u)=>(match Nat.beq (P.cellsOf u) 1 with|true=>H7 u x y h|false=>.bad)
  |_=>.bad)
 | .min,_,[x,y]=>apO x y h
 | .max,_,[x,y]=>apP x y h
 | .clear,[t],[x]=>(match P.underlying t with
  |some (.slice el)=>(match NM P el with
   |some ti=>(match ti.zero with
    |some z=>(match Ie z.cells.toList with|some zs=>Oo zs x h|none=>.bad)
    |none=>.bad)
   |none=>.bad)
  |_=>.bad)
 |_,_,_=>.bad
def v0(vs:List V)(k:R V):R V:=match vs with| []=>k|_=>.bad
def v1(vs:List V)(k:V→R V):R V:=match vs with| [x]=>k x|_=>.bad
def v2(vs:List V)(k:V→V→R V):R V:=match vs with| [x,y]=>k x y|_=>.bad
def v3(vs:List V)(k:V→V→V→R V):R V:=match vs with| [x,y,z]=>k x y z|_=>.bad
theorem aPs{vs:List V}{k:R V}(e:v0 vs k=.ok r h'):vs= []∧k=.ok r h':=by
 unfold v0 at e;split at e<;>first|exact⟨rfl,e⟩|cases e
theorem Dc{vs:List V}{k:V→R V}(e:v1 vs k=.ok r h'):∃x,vs= [x]∧k x=.ok r h':=by
 unfold v1 at e;split at e<;>first|exact⟨_,rfl,e⟩|cases e
theorem WG{vs:List V}{k:V→V→R V}(e:v2 vs k=.ok r h'):∃x y,vs= [x,y]∧k x y=.ok r h':=by
 unfold v2 at e;split at e<;>first|exact⟨_,_,rfl,e⟩|cases e
theorem aCx{vs:List V}{k:V→V→V→R V}(e:v3 vs k=.ok r h'):∃x y z,vs= [x,y,z]∧k x y z=.ok r h':=by
 unfold v3 at e;split at e<;>first|exact⟨_,_,_,rfl,e⟩|cases e
def avX(P:Program)(t:TypeId)(is:List Nat)(vs:List V)(h:Hp):R V:=match P.underlying t,aaA P t with
 |some (.struct fs),some z=>(match ay6 P fs.toList with
  |some pl=>(match placed (fun i=>pl.toArray[i]?) (is.zip vs) with|some qs=>bK z qs h|none=>.bad)
  |none=>.bad)
 |some (.array _ el),some z=>(match P.info? el with
  |some ie=>(match placed (fun i=>some (i*ie.size,ie.size)) (is.zip vs) with|some qs=>bK z qs h|none=>.bad)
  |none=>.bad)
 |_,_=>.bad
def aNO(P:Program)(t:TypeId)(vs:List V)(h:Hp):R V:=match vs with
 | []=>(match P.underlying t with
  |some (.slice el)=>(match P.info? el with|some _=>.ok (.slice h.next 0 0 (.kn 0)) (h.new (.cells (.rw el true) []))|none=>.bad)
  |_=>.bad)
 |_=>.bad
def aiA(P:Program)(t:TypeId)(len:Nat)(is:List Nat)(vs:List V)(h:Hp):R V:=match P.underlying t with
 |some (.slice el)=>(match NM P el with
  |some ti=>(match ti.zero with
   |some z=>(match Ie ((Array.range (len*ti.size)).map (z.cells[· % z.cells.size]!)).toList,placed (fun i=>some (i*ti.size,ti.size)) (is.zip vs),Nat.blt 0 len,Nat.ble (len*ti.size) 16777216 with
    |some zs,some qs,true,true=>bI el zs len qs h
    |_,_,_,_=>.bad)
   |none=>.bad)
  |none=>.bad)
 |_=>.bad
def vT(P:Program)(t:TypeId)(x:V)(h:Hp):R V:=match P.underlying t with
 |some d=>(match aqn d with
  |true=>(match P.info? t with|some ti=>bW ti.size x h|none=>.bad)
  |false=>aF x h)
 |none=>.bad
def aDv(P:Program)(op:BinOp)(t:TypeId)(lit:Bool)(x y:V)(h:Hp):R V:=match P.underlying t with
 |some d=>(match structOf d with
  |some fs=>Zm P op t fs x y h
  |none=>(match apL P d with|some sz=>aI op (ahU d sz lit) x y h|none=>.bad))
 |none=>.bad
def xP(P:Program)(s d:TypeId)(x:V)(h:Hp):R V:=match P.underlying s,P.underlying d with
 |some _,some (.int k)=>kU k x h
 |some .string,some .string=>UA x h
 |some .string,some (.slice el)=>(match P.underlying el with|some (.int .u8)=>Gn x h|_=>.bad)
 |some (.slice el),some .string=>(match P.underlying el with|some (.int .u8)=>kY x h|_=>.bad)
 |some (.slice _),some (.slice el)=>(match Nat.beq s d,P.underlying el with|true,some (.int .u8)=>auY x h|_,_=>.bad)
 |some (.pointer t),some .unsafePointer=>(match P.info? t with|some ti=>(match Nat.beq ti.size 0 with|false=>apN x h|true=>.bad)|none=>.bad)
 |some .unsafePointer,some (.pointer u)=>(match P.info? u with|some _=>Zl P u x h|none=>.bad)
 |_,_=>.bad
def avV(P:Program)(t:TypeId)(x:V)(h:Hp):R V:=match P.underlying t with
 |some (.interface _)=>.bad
 |some _=>au0 t x h
 |none=>.bad
def aDu(fn:Fn)(m n:Nat)(vs:List V)(h:Hp):R V:=match Nat.beq vs.length (m+n) with
 |true=>fK fn (vs.take m) (vs.drop m) h
 |false=>.bad
def anh(P:Program)(t:TypeId)(l c:V)(h:Hp):R V:=match P.underlying t with
 |some (.slice el)=>(match NM P el,aaA P el with|some ti,some z=>SE el ti.bytes z l c h|_,_=>.bad)
 |_=>.bad
def UK(P:Program)(t:TypeId)(x:V)(lo hi mx:Option V)(h:Hp):R V:=match P.underlying t with
 |some .string=>(match mx with|none=>dZ x lo hi h|some _=>.bad)
 |some (.slice el)=>(match P.info? el with|some ti=>ahG ti.size x lo hi mx h|none=>.bad)
 |some (.array n el)=>(match P.info? el with|some ti=>Om ti.size n x lo hi mx h|none=>.bad)
 |_=>.bad
def avW(P:Program)(t:TypeId)(n:Nat)(x:V)(h:Hp):R V:=match P.underlying t with
 |some (.struct fs)=>(match fs[n]? with
  |some f=>(match P.info? f.type with
   |some ti=>(match Nat.beq ti.size 0 with|false=>aC f.offset x h|true=>.bad)
   |none=>.bad)
  |none=>.bad)
 |_=>.bad
def abb(P:Program)(t:TypeId)(x i:V)(h:Hp):R V:=match P.underlying t with
 |some (.slice el)=>(match P.info? el with|some ti=>bU ti.size x i h|none=>.bad)
 |some (.array n el)=>(match P.info? el with|some ti=>ahJ n ti.size x i h|none=>.bad)
 |_=>.bad
def avU(P:Program)(t:TypeId)(x i:V)(h:Hp):R V:=match P.underlying t with
 |some .string=>dG x i h
 |_=>.bad
def Y6(d:TypeDesc)(ok:Bool)(z m x:V)(h:Hp):R V:=match nM d x with|true=>Y5 ok z m x h|false=>.bad
def gI(d:TypeDesc)(m x y:V)(h:Hp):R V:=match nM d x with|true=>xG m x y h|false=>.bad
def Zk(P:Program)(t:TypeId)(ok:Bool)(m x:V)(h:Hp):R V:=match P.underlying t with
 |some (.map kt et)=>(match P.underlying kt,P.info? et with
  |some d,some ie=>(match ie.zero with
   |some zc=>(match const zc with|some z=>Y6 d ok z m x h|none=>.bad)
   |none=>.bad)
  |_,_=>.bad)
 |_=>.bad
def Du(P:Program)(t:TypeId)(m x y:V)(h:Hp):R V:=match P.underlying t with
 |some (.map kt _)=>(match P.underlying kt with
  |some d=>(match nM d x with|true=>xG m x y h|false=>.bad)
  |none=>.bad)
 |_=>.bad
def avR(r:Option Operand)(vs:List V)(h:Hp):R V:=match r,vs with
 |none,[]=>aaO h
 |_,_=>.bad
def atQ(P:Program)(e:FuncId→Option Fun)(c:Call)(vs:List V)(h:Hp):R V:=match c.callee with
 | .value _=>(match vs with|f::args=>dX e f args h| []=>.bad)
 | .builtin b=>aaP P b c.argTypes.toList vs h
 | .invoke _ _=>.bad
def akr(x:Option Operand)(vs:List V)(k:Option V→List V→R V):R V:=match x with
 |none=>k none vs
 |some _=>(match vs with|v::r=>k (some v) r| []=>.bad)
def aAP(P:Program)(t:TypeId)(n:Nat)(x:V)(h:Hp):R V:=match P.underlying t with
 |some (.struct fs)=>(match fs[n]? with
  |some f=>(match P.underlying f.type,P.info? f.type with
   |some d,some ti=>aCW (aqn d) ti.size f.offset x h
   |_,_=>.bad)
  |none=>.bad)
 |_=>.bad
theorem aJQ{t:TypeId}{d:TypeDesc}{ti:TypeInfo}(hd:P.underlying t=some d)(hti:P.info? t=some ti){off:Nat}{x:V}{a:Value}(hr:Rel G M h w)(hx:Rp M x a)(e:aCW (aqn d) ti.size off x h=.ok r h'):
  Good P G M h w (do part t (←asAgg a) off) r h':=by
 unfold aCW at e
 split at e
 ·rename_i l
  obtain⟨xs,hl,hs,rfl⟩:=hx.agg
  split at e
  ·rename_i hag
   split at e
   ·rename_i v hv
    cases e
    rw [aAq] at hv
    obtain⟨y,hy,hrp⟩:=hl.get hv
    refine .same hr (c:=y) ?_ hrp
    have h1:(isAgg t).run P w=.ok false w:=by rw [WM hd];cases d<;>first|rfl|(cases hag)
    simp [asAgg,part,h1,hy]
   ·cases e
  ·rename_i hag
   split at e
   ·rename_i vs hv
    cases e
    obtain⟨h2,rfl⟩:=Um _ hv
    rw [jT] at h2⊢
    have h1:(isAgg t).run P w=.ok true w:=by rw [WM hd];cases d<;>first|rfl|(cases hag)
    refine .same hr (c:=.agg ((xs.drop off).take ti.size).toArray) ?_ (aeJ ((hl.drop off).take ti.size) fun y hy=>hs y (List.mem_of_mem_drop (List.mem_of_mem_take hy)))
    simp [asAgg,part,h1,sizeOf,typeInfo,hti]
   ·cases e
 ·cases e
theorem aH8{t:TypeId}{fs:Array Field}{n:Nat}{f:Field}(hd:P.underlying t=some (.struct fs))(hf:fs[n]?=some f){a:Value}(g:Good P G M h w (do part f.type (←asAgg a) f.offset) r h'):
  Good P G M h w (Instr.field t a n) r h':=by
 obtain⟨c,w',M',e,g1,g2,g3⟩:=g
 refine⟨c,w',M',?_,g1,g2,g3⟩
 rw [←e]
 simp [Instr.field,run_underlying hd,hf]
def iQ(P:Program)(e:FuncId→Option Fun)(op:Op)(vs:List V)(h:Hp):R V:=
 match op with
 | .move _=>v1 vs fun x=>.ok x h
 | .assign _=>v1 vs fun x=>.ok x h
 | .pick _ _ _=>v3 vs fun c a b=>atI c a b h
 | .alloc t=>v0 vs (match aaA P t with|some z=>fC t z h|none=>.bad)
 | .box t _=>v1 vs fun x=>fV t x h
 | .build t ps=>avX P t (ps.toList.map (·.1)) vs h
 | .buildSlice t len ps=>(match Nat.beq len 0 with|true=>aNO P t vs h|false=>aiA P t len (ps.toList.map (·.1)) vs h)
 | .load t _=>v1 vs fun x=>vT P t x h
 | .store t _ _=>v2 vs fun x y=>(match P.info? t with|some ti=>aO ti.size x y h|none=>.bad)
 | .nilCheck _=>v1 vs fun x=>aK x h
 | .binOp op t xo yo _=>v2 vs fun x y=>aDv P op t (isC xo||isC yo) x y h
 | .unOp op _ _=>v1 vs fun x=>oUn op x h
 | .convert s d _=>v1 vs fun x=>xP P s d x h
 | .makeInterface t _=>v1 vs fun x=>avV P t x h
 | .makeFunc fn f c=>aDu fn f.size c.size vs h
 | .makeSlice t _ _=>v2 vs fun l c=>anh P t l c h
 | .slice t _ lo hi mx=>(match vs with
  |x::vs=>akr lo vs fun lo vs=>akr hi vs fun hi vs=>akr mx vs fun mx _=>UK P t x lo hi mx h
  | []=>.bad)
 | .fieldAddr t _ n=>v1 vs fun x=>avW P t n x h
 | .field t _ n=>v1 vs fun x=>aAP P t n x h
 | .indexAddr t _ _=>v2 vs fun x i=>abb P t x i h
 | .index t _ _=>v2 vs fun x i=>avU P t x i h
 | .extract _ n=>v1 vs fun x=>bJ n x h
 | .lookup t _ _ ok=>v2 vs fun m x=>Zk P t ok m x h
 | .mapUpdate t _ _ _=>v3 vs fun m x y=>Du P t m x y h
 | .insert t _ _ _=>v3 vs fun m x y=>Du P t m x y h
 | .makeMap _ r=>avR r vs h
 | .call c=>atQ P e c vs h
 |_=>.bad
theorem vF{ρ:Operand→Value}{x:Operand}{v:V}{xs:Array Operand}(hx:xs= #[x])(hv:bZ M [v] (xs.toList.map ρ)):Rp M v (ρ x):=by
 subst hx
 obtain⟨_,_,h,_,e⟩:=hv
 simp at e;obtain⟨rfl,_⟩:=e;exact h
theorem ops2{ρ:Operand→Value}{x y:Operand}{u v:V}{xs:Array Operand}(hx:xs= #[x,y])(hv:bZ M [u,v] (xs.toList.map ρ)):Rp M u (ρ x)∧Rp M v (ρ y):=by
 subst hx
 obtain⟨_,_,h,⟨_,_,g,_,e'⟩,e⟩:=hv
 subst e'
 simp at e;obtain⟨rfl,rfl,_⟩:=e;exact⟨h,g⟩
theorem ops3{ρ:Operand→Value}{x y z:Operand}{u v t:V}{xs:Array Operand}(hx:xs= #[x,y,z])(hv:bZ M [u,v,t] (xs.toList.map ρ)):Rp M u (ρ x)∧Rp M v (ρ y)∧Rp M t (ρ z):=by
 subst hx
 obtain⟨_,_,h,⟨_,_,g,⟨_,_,k,_,e''⟩,e'⟩,e⟩:=hv
 subst e'';subst e'
 simp at e;obtain⟨rfl,rfl,rfl,_⟩:=e;exact⟨h,g,k⟩
theorem aIi{e:FuncId→Option Fun}(he:∀f F,e f=some F→aJ P G f F){f:V}{args:List V}{cf:Value}{cargs:List Value}(hr:Rel G M h w)(hf:Rp M f cf)(ha:bZ M args cargs)
  (e0:dX e f args h=.ok r h'):Opq P (Post G M h w r h') ((do let d←Deferred.ofValue cf cargs.toArray;invoke d.target d.args:Sem Next).run P w):=by
 unfold dX at e0
 split at e0
 ·rename_i fn a b
  obtain⟨g0,x,y,hg0,hx,hy,rfl⟩:=hf.func
  split at e0
  ·rename_i g
   obtain rfl:g0=.func g:=hg0
   split at e0
   ·rename_i F hF
    have:=he g F hF _ _ _ _ _ _ (x++(cargs++y)) e0 hr (bZ.append hx (bZ.append ha hy))
    simpa [Deferred.ofValue,invoke,Array.append_assoc] using this
   ·cases e0
  ·cases e0
 ·cases e0
theorem aCP{d:TypeDesc}{sz:Nat}(h0:apL P d=some sz):∀e,d=.pointer e→∃ti,P.info? e=some ti∧ti.size=sz:=by
 intro e he
 subst he
 simp only [apL] at h0
 split at h0
 ·rename_i ti hi
  cases h0
  exact⟨ti,hi,rfl⟩
 ·cases h0
theorem Opq.pure{c:Value}(hr:Rel G M h w)(hc:Rp M r c):Opq P (Post G M h w r h) ((pure (.value c):Sem Next).run P w):=⟨M,hc,hr,.refl hr⟩
theorem zip_fst{ρ:Operand→Value}(ps:List (Nat×Operand)){vs:List V}(hl:vs.length=ps.length):
  ((ps.map (·.1)).zip vs).map (·.1)=(ps.map fun p=>(p.1,ρ p.2)).map (·.1)∧((ps.map (·.1)).zip vs).map (·.2)=vs:=by
 constructor
 ·rw [List.map_fst_zip (by simp [hl])];simp
 ·rw [List.map_snd_zip (by simp [hl])]
theorem bZ.cons_inv{v:V}{vs:List V}{l:List Value}(hv:bZ M (v::vs) l):∃c cs,l=c::cs∧Rp M v c∧bZ M vs cs:=by
 obtain⟨c,cs,h1,h2,e⟩:=hv;exact⟨c,cs,e,h1,h2⟩
theorem apM{ρ:Operand→Value}{x:Option Operand}{rest:List Value}{vs:List V}{k:Option V→List V→R V}(hv:bZ M vs ((x.toArray.toList.map ρ)++rest))(e:akr x vs k=.ok r h'):
  ∃u us,k u us=.ok r h'∧oQ M u (x.map ρ)∧bZ M us rest:=by
 cases x with
 |none=>exact⟨none,vs,e,trivial,by simpa using hv⟩
 |some y=>
  cases vs with
  |nil=>cases e
  |cons v vs=>
   obtain⟨c,cs,h1,h2,h3⟩:=hv.cons_inv
   simp at h1
   obtain⟨rfl,rfl⟩:=h1
   exact⟨some v,vs,e,h2,h3⟩
theorem az8(w:World)(t el:TypeId)(ti:TypeInfo)(hd:P.underlying t=some (.slice el))(hti:P.info? el=some ti):
  (Instr.buildSlice t 0 #[]).run P w=.ok (.slice (some ⟨w.heap.size,0,none⟩) 0 0) (w.alloc (.cells #[] el)):=by
 simp [Instr.buildSlice,run_underlying hd,sizeOf,typeInfo,hti,Instr.fill,newRow,show(Array.range 0)= #[] from rfl]
theorem ayR{d:TypeDesc}{fs:Array Field}(h:structOf d=some fs):d=.struct fs:=by
 cases d<;>simp [structOf] at h
 rw [h]
theorem aKo{op:BinOp}{t:TypeId}{xo yo:Operand}{x y:V}{a b:Value}(hr:Rel G M h w)(hx:Rp M x a)(hy:Rp M y b)(e:aDv P op t (isC xo||isC yo) x y h=.ok r h'):
  Good P G M h w (do eqGuard op t xo yo a b;binOp op t a b) r h':=by
 unfold aDv at e
 split at e
 ·rename_i d hd
  split at e
  ·rename_i fs hfs
   rw [ayR hfs] at hd
   exact aFy hd hr hx hy e
  ·split at e
   ·rename_i sz hsz
    exact aNT hd (aCP hsz) hr hx hy e
   ·cases e
 ·cases e
theorem aDt{t:TypeId}{ok:Bool}{m x:V}{cm cx:Value}(hr:Rel G M h w)(hm:Rp M m cm)(hx:Rp M x cx)(e:Zk P t ok m x h=.ok r h'):Good P G M h w (Instr.lookup t cm cx ok) r h':=by
 unfold Zk at e
 split at e
 ·rename_i kt et ht
  split at e
  ·rename_i d ie hd hie
   split at e
   ·rename_i zc hzc
    split at e
    ·rename_i z hz
     unfold Y6 at e
     split at e
     ·rename_i hf
      exact aE0 ht hd hie hzc hz hf hr hm hx e
     ·cases e
    ·cases e
   ·cases e
  ·cases e
 ·cases e
theorem acU{t:TypeId}{m x y:V}{cm cx cy:Value}(hr:Rel G M h w)(hm:Rp M m cm)(hx:Rp M x cx)(hy:Rp M y cy)(e:Du P t m x y h=.ok r h'):
  ∃w',(Instr.mapUpdate t cm cx cy).run P w=.ok () w'∧r=V.undef∧Rel G M h' w'∧Ext M h w M h' w':=by
 unfold Du at e
 split at e
 ·rename_i kt et ht
  split at e
  ·rename_i d hd
   split at e
   ·rename_i hf
    exact avl ht hd hf hr hm hx hy e
   ·cases e
  ·cases e
 ·cases e
set_option maxHeartbeats 1000000 in
theorem Kz{e:FuncId→Option Fun}(he:∀f F,e f=some F→aJ P G f F){o:Oper}{a:Act}{vs:List V}(hv:bZ M vs (o.op.operands.toList.map a.eval))(hr:Rel G M h w)
  (e0:iQ P e o.op vs h=.ok r h'):Opq P (Post G M h w r h') ((execOp a.eval o).run P w):=by
 obtain⟨dst,op,type,pos,after,guard⟩:=o
 simp only at hv e0
 cases op<;>simp only [iQ] at e0<;>try (cases e0;done)
 case move x=>
  obtain⟨x,rfl,e0⟩:=Dc e0
  cases e0
  exact .pure hr (vF rfl hv)
 case assign x=>
  obtain⟨x,rfl,e0⟩:=Dc e0
  cases e0
  exact .pure hr (vF rfl hv)
 case pick c x y=>
  obtain⟨c,x,y,rfl,e0⟩:=aCx e0
  obtain⟨h1,h2,h3⟩:=ops3 rfl hv
  obtain⟨q,rfl,e1⟩:=ar0 e0
  have hb:=h1.bool
  simp only [execOp,hb,Go.asBool]
  cases q<;>cases e1
  ·exact .pure hr h3
  ·exact .pure hr h2
 case alloc t=>
  obtain⟨rfl,e0⟩:=aPs e0
  split at e0
  ·rename_i z hz
   obtain⟨it,zv,h1,h2,h3⟩:=Kv hz
   exact(aIn h1 h2 (h3 M).1 (h3 M).2 hr e0).opq
  ·cases e0
 case box t x=>
  obtain⟨x,rfl,e0⟩:=Dc e0
  exact(aNS hr (vF rfl hv) e0).opq
 case load t x=>
  obtain⟨x,rfl,e0⟩:=Dc e0
  unfold vT at e0
  split at e0
  ·rename_i d hd
   split at e0
   ·rename_i ha
    split at e0
    ·rename_i ti hti
     exact(aHQ hd (by cases d<;>simp_all [aqn]) hti hr (vF rfl hv) e0).opq
    ·cases e0
   ·rename_i ha
    exact(aHR hd (by cases d<;>simp_all [aqn]) hr (vF rfl hv) e0).opq
  ·cases e0
 case store t x y=>
  obtain⟨x,y,rfl,e0⟩:=WG e0
  obtain⟨h1,h2⟩:=ops2 rfl hv
  split at e0
  ·rename_i ti hti
   obtain⟨w',g1,rfl,g2,g3⟩:=aHl (P:=P) hti hr h1 h2 e0
   simp only [execOp,Sem.run_bind,g1,Result.andThen_ok]
   exact⟨M,pG M,g2,g3⟩
  ·cases e0
 case lookup t m x ok=>
  obtain⟨m,x,rfl,e0⟩:=WG e0
  obtain⟨h1,h2⟩:=ops2 rfl hv
  exact(aDt hr h1 h2 e0).opq
 case mapUpdate t m x y=>
  obtain⟨m,x,y,rfl,e0⟩:=aCx e0
  obtain⟨h1,h2,h3⟩:=ops3 rfl hv
  obtain⟨w',g1,rfl,g2,g3⟩:=acU (P:=P) hr h1 h2 h3 e0
  simp only [execOp,Sem.run_bind,g1,Result.andThen_ok]
  exact⟨M,pG M,g2,g3⟩
 case insert t m x y=>
  obtain⟨m,x,y,rfl,e0⟩:=aCx e0
  obtain⟨h1,h2,h3⟩:=ops3 rfl hv
  obtain⟨w',g1,rfl,g2,g3⟩:=acU (P:=P) hr h1 h2 h3 e0
  simp only [execOp,Sem.run_bind,g1,Result.andThen_ok]
  exact⟨M,pG M,g2,g3⟩
 case makeMap t rs=>
  unfold avR at e0
  split at e0
  ·exact(aC5 hr e0).opq
  ·cases e0
 case nilCheck x=>
  obtain⟨x,rfl,e0⟩:=Dc e0
  obtain⟨rfl,rfl,hh⟩:=ay3 (P:=P) (w:=w) (vF rfl hv) e0
  rw [hh a.eval _ _ rfl rfl]
  exact⟨M,vF rfl hv,hr,.refl hr⟩
 case binOp op t xo yo _=>
  obtain⟨x,y,rfl,e0⟩:=WG e0
  obtain⟨h1,h2⟩:=ops2 rfl hv
  exact(aKo hr h1 h2 e0).opq
 case unOp op _ x=>
  obtain⟨x,rfl,e0⟩:=Dc e0
  exact(aPt hr (vF rfl hv) e0).opq
 case convert s d x=>
  obtain⟨x,rfl,e0⟩:=Dc e0
  unfold xP at e0
  split at e0
  ·rename_i hs hd
   exact(aDx hs hd hr (vF rfl hv) e0).opq
  ·rename_i hs hd
   exact(aDw hs hd hr (vF rfl hv) e0).opq
  ·rename_i el hs hd
   split at e0
   ·rename_i he'
    exact(ayS hs hd he' hr (vF rfl hv) e0).opq
   ·cases e0
  ·rename_i el hs hd
   split at e0
   ·rename_i he'
    exact(azc hs hd he' hr (vF rfl hv) e0).opq
   ·cases e0
  ·rename_i el el' hs hd
   split at e0
   ·rename_i hsd he'
    exact(aHM (Nat.eq_of_beq_eq_true hsd) hs hd he' hr (vF rfl hv) e0).opq
   ·cases e0
  ·rename_i t hs hd
   replace e0:(match P.info? t with|some ti=>(match Nat.beq ti.size 0 with|false=>apN x h|true=>.bad)|none=>.bad)=R.ok r h':=e0
   split at e0
   ·rename_i ti hti
    split at e0
    ·rename_i hz
     exact(aNh hs hd hti (Nat.ne_of_beq_eq_false hz) hr (vF rfl hv) e0).opq
    ·cases e0
   ·cases e0
  ·rename_i u hs hd
   replace e0:(match P.info? u with|some _=>Zl P u x h|none=>.bad)=R.ok r h':=e0
   split at e0
   ·rename_i iu hiu
    exact(aH5 hs hd hiu hr (vF rfl hv) e0).opq
   ·cases e0
  ·cases e0
 case makeInterface t x=>
  obtain⟨x,rfl,e0⟩:=Dc e0
  unfold avV at e0
  split at e0
  ·cases e0
  ·rename_i d hni hd
   exact(aH2 hd (fun ms hm=>hni ms (by rw [hm])) hr (vF rfl hv) e0).opq
  ·cases e0
 case makeFunc fn f c=>
  unfold aDu at e0
  split at e0
  ·rename_i hl
   have hl':=Nat.eq_of_beq_eq_true hl
   have e1:(Op.makeFunc fn f c).operands.toList.map a.eval=f.toList.map a.eval++c.toList.map a.eval:=by simp [Op.operands]
   rw [e1] at hv
   have g1:=hv.take f.size
   have g2:=hv.drop f.size
   rw [List.take_left' (by simp)] at g1
   rw [List.drop_left' (by simp)] at g2
   have:=(aKa (P:=P) hr g1 g2 e0).opq
   have e2:∀z:Array Operand,(z.toList.map a.eval).toArray=z.map a.eval:=fun z=>by apply Array.ext';simp
   rw [e2,e2] at this
   exact this
  ·cases e0
 case makeSlice t l c=>
  obtain⟨x,y,rfl,e0⟩:=WG e0
  obtain⟨h1,h2⟩:=ops2 rfl hv
  unfold anh at e0
  split at e0
  ·rename_i el hd
   split at e0
   ·rename_i ti z hti hz
    obtain⟨zv,E⟩:=Bg hti
    obtain⟨it,zv',k1,k2,k3⟩:=Kv hz
    rw [E.info] at k1;cases k1
    rw [E.zero] at k2;cases k2
    exact(avm hd E (k3 M).1 hr h1 h2 e0).opq
   ·cases e0
  ·cases e0
 case slice t x lo hi mx=>
  split at e0
  ·rename_i v vs
   have e1:(Op.slice t x lo hi mx).operands.toList.map a.eval=a.eval x::((lo.toArray.toList.map a.eval)++((hi.toArray.toList.map a.eval)++((mx.toArray.toList.map a.eval)++ []))):=by
    simp [Op.operands]
   rw [e1] at hv
   obtain⟨c,cs,q1,q2,q3⟩:=hv.cons_inv
   cases q1
   obtain⟨l1,vs1,e1,p1,r1⟩:=apM q3 e0
   obtain⟨l2,vs2,e2,p2,r2⟩:=apM r1 e1
   obtain⟨l3,vs3,e3,p3,r3⟩:=apM r2 e2
   clear e0 e1 e2
   have e0:=e3
   clear e3
   unfold UK at e0
   split at e0
   ·rename_i hd
    cases l3 with
    |some _=>cases e0
    |none=>
     cases mx with
     |some _=>exact p3.elim
     |none=>exact(ayU hd hr q2 p1 p2 e0).opq
   ·rename_i el hd
    split at e0
    ·rename_i ti hti
     exact(aEG hd hti hr q2 p1 p2 p3 e0).opq
    ·cases e0
   ·rename_i n el hd
    split at e0
    ·rename_i ti hti
     exact(ayW hd hti hr q2 p1 p2 p3 e0).opq
    ·cases e0
   ·cases e0
  ·cases e0
 case fieldAddr t x n=>
  obtain⟨x,rfl,e0⟩:=Dc e0
  unfold avW at e0
  split at e0
  ·rename_i fs hd
   split at e0
   ·rename_i f hf
    split at e0
    ·rename_i ti hti
     split at e0
     ·rename_i hz
      exact(avJ hd hf hti (Nat.ne_of_beq_eq_false hz) hr (vF rfl hv) e0).opq
     ·cases e0
    ·cases e0
   ·cases e0
  ·cases e0
 case field t x n=>
  obtain⟨x,rfl,e0⟩:=Dc e0
  unfold aAP at e0
  split at e0
  ·rename_i fs hd
   split at e0
   ·rename_i f hf
    split at e0
    ·rename_i d ti hd2 hti
     exact(aH8 hd hf (aJQ hd2 hti hr (vF rfl hv) e0)).opq
    ·cases e0
   ·cases e0
  ·cases e0
 case indexAddr t x i=>
  obtain⟨x,y,rfl,e0⟩:=WG e0
  obtain⟨h1,h2⟩:=ops2 rfl hv
  unfold abb at e0
  split at e0
  ·rename_i el hd
   split at e0
   ·rename_i ti hti
    exact(aJ5 hd hti hr h1 h2 e0).opq
   ·cases e0
  ·rename_i n el hd
   split at e0
   ·rename_i ti hti
    exact(aJ7 hd hti hr h1 h2 e0).opq
   ·cases e0
  ·cases e0
 case index t x i=>
  obtain⟨x,y,rfl,e0⟩:=WG e0
  obtain⟨h1,h2⟩:=ops2 rfl hv
  unfold avU at e0
  split at e0
  ·rename_i hd
   exact(aE8 hd hr h1 h2 e0).opq
  ·cases e0
 case extract x n=>
  obtain⟨x,rfl,e0⟩:=Dc e0
  exact(aDn hr (vF rfl hv) e0).opq
 case build t ps=>
  have hvl:=hv.length
  have e1:(Op.build t ps).operands.toList.map a.eval=ps.toList.map fun p=>a.eval p.2:=by simp [Op.operands]
  rw [e1] at hv hvl
  have hl:vs.length=ps.toList.length:=by simpa using hvl.symm
  obtain⟨z1,z2⟩:=zip_fst (ρ:=a.eval) ps.toList hl
  have hys:(ps.map fun(i,x)=>(i,a.eval x)).toList=ps.toList.map fun p=>(p.1,a.eval p.2):=by simp
  have h1:((ps.toList.map (·.1)).zip vs).map (·.1)=(ps.map fun(i,x)=>(i,a.eval x)).toList.map (·.1):=by rw [hys];exact z1
  have h2:bZ M (((ps.toList.map (·.1)).zip vs).map (·.2)) ((ps.map fun(i,x)=>(i,a.eval x)).toList.map (·.2)):=by
   rw [hys,z2,List.map_map];exact hv
  unfold avX at e0
  split at e0
  ·rename_i fs z hd hz
   obtain⟨it,zv,k1,k2,k3⟩:=Kv hz
   split at e0
   ·rename_i pl hpl
    split at e0
    ·rename_i qs hq
     exact(av5 hd k1 k2 (.inr ⟨fs,pl,rfl,hpl,rfl⟩) (k3 M).1 (k3 M).2 hq h1 h2 hr e0).opq
    ·cases e0
   ·cases e0
  ·rename_i n el z hd hz
   obtain⟨it,zv,k1,k2,k3⟩:=Kv hz
   split at e0
   ·rename_i ie hie
    split at e0
    ·rename_i qs hq
     exact(av5 hd k1 k2 (.inl ⟨n,el,ie,rfl,hie,rfl⟩) (k3 M).1 (k3 M).2 hq h1 h2 hr e0).opq
    ·cases e0
   ·cases e0
  ·cases e0
 case buildSlice t len ps=>
  have hvl:=hv.length
  have e1:(Op.buildSlice t len ps).operands.toList.map a.eval=ps.toList.map fun p=>a.eval p.2:=by simp [Op.operands]
  rw [e1] at hv hvl
  have hl:vs.length=ps.toList.length:=by simpa using hvl.symm
  obtain⟨z1,z2⟩:=zip_fst (ρ:=a.eval) ps.toList hl
  have hys:(ps.map fun(i,x)=>(i,a.eval x)).toList=ps.toList.map fun p=>(p.1,a.eval p.2):=by simp
  have h1:((ps.toList.map (·.1)).zip vs).map (·.1)=(ps.map fun(i,x)=>(i,a.eval x)).toList.map (·.1):=by rw [hys];exact z1
  have h2:bZ M (((ps.toList.map (·.1)).zip vs).map (·.2)) ((ps.map fun(i,x)=>(i,a.eval x)).toList.map (·.2)):=by
   rw [hys,z2,List.map_map];exact hv
  split at e0
  ·rename_i hz
   have hz:=Nat.eq_of_beq_eq_true hz
   subst hz
   unfold aNO at e0
   split at e0
   ·have hps:ps= #[]:=by
     cases ps with
     |mk l=>cases l with
      |nil=>rfl
      |cons x l=>simp at hl
    subst hps
    split at e0
    ·rename_i el hd
     split at e0
     ·rename_i ti hti
      cases e0
      have:=hr.row (w':=w.alloc (.cells #[] el)) [] #[] el (0,0) rfl (by simp) (by simp) true (fun _=>rfl) rfl rfl rfl rfl
      have gd:Good P G M h w (Instr.buildSlice t 0 #[]) (.slice h.next 0 0 (.kn 0)) (h.new (.cells (.rw el true) [])):=⟨.slice (some ⟨w.heap.size,0,none⟩) 0 0,w.alloc (.cells #[] el),_,az8 w t el ti hd hti,ji (o:=0) (n:=0) (k:=.kn 0) (m:=0) (M.fE h.next ⟨w.heap.size,0,(#[]:Array Value).size⟩) ⟨rfl,Nat.le_refl 0⟩,this.1,this.2⟩
      have gq:=gd.opq
      rw [show(#[]:Array (Nat×Value))=(#[]:Array (Nat×Operand)).map (fun x=>(x.1,a.eval x.2)) from by simp] at gq
      exact gq
     ·cases e0
    ·cases e0
   ·cases e0
  unfold aiA at e0
  split at e0
  ·rename_i el hd
   split at e0
   ·rename_i ti hti
    obtain⟨zv,E⟩:=Bg hti
    split at e0
    ·rename_i z hz
     rw [E.zero] at hz;cases hz
     split at e0
     ·rename_i zs qs hzs hq hp1 hp2
      exact(as4 hd E (by simpa [Nat.blt_eq] using hp1) (Nat.le_of_ble_eq_true hp2) (Bj hzs M).1 hq h1 h2 hr e0).opq
     ·cases e0
    ·cases e0
   ·cases e0
  ·cases e0
 case call c=>
  obtain⟨callee,args,argTypes⟩:=c
  unfold atQ at e0
  cases callee with
  |invoke rc m=>cases e0
  |value f=>
   simp only at e0
   split at e0
   ·rename_i fv avs
    have e1:(Op.call ⟨.value f,args,argTypes⟩).operands.toList.map a.eval=a.eval f::args.toList.map a.eval:=by simp [Op.operands,Call.operands]
    rw [e1] at hv
    obtain⟨c,cs,q1,q2,q3⟩:=hv.cons_inv
    cases q1
    have:=aIi he hr q2 q3 e0
    have e2:(args.toList.map a.eval).toArray=args.map a.eval:=by apply Array.ext';simp
    rw [e2] at this
    simpa [execOp,resolve] using this
   ·cases e0
  |builtin b=>
   simp only at e0
   have e1:(Op.call ⟨.builtin b,args,argTypes⟩).operands.toList.map a.eval=args.toList.map a.eval:=by simp [Op.operands,Call.operands]
   rw [e1] at hv
   have hargs:∀l:List Operand,args.toList=l→args=l.toArray:=fun l hl=>by apply Array.ext';simpa using hl
   have htys:∀l:List TypeId,argTypes.toList=l→argTypes=l.toArray:=fun l hl=>by apply Array.ext';simpa using hl
   unfold aaP at e0
   split at e0
   ·rename_i t x hts
    have htt:=htys _ hts
    subst htt
    obtain⟨c,cs,q1,q2,q3⟩:=hv.cons_inv
    have hcs:cs= []:=q3
    subst hcs
    have e2:args.map a.eval= #[c]:=by apply Array.ext';simpa using q1
    have fin:Good P G M h w (Builtin.len_ #[t] type #[c]) r h'→Opq P (Post G M h w r h') ((execOp a.eval ⟨dst,.call ⟨.builtin .len,args, #[t]⟩,type,pos,after,guard⟩).run P w):=by
     intro g
     have:=g.opq
     simpa [execOp,resolve,invoke,builtin,e2] using this
    split at e0
    ·rename_i n el hd
     exact fin (aE3 hd hr e0)
    ·rename_i d hna hd
     exact fin (aNK hd hr q2 e0)
    ·cases e0
   ·rename_i t t2 s x hts
    have htt:=htys _ hts
    subst htt
    obtain⟨c,cs,q1,q2,q3⟩:=hv.cons_inv
    obtain⟨c2,cs2,p1,p2,p3⟩:=q3.cons_inv
    have hcs:cs2= []:=p3
    subst hcs
    subst p1
    have e2:args.map a.eval= #[c,c2]:=by apply Array.ext';simpa using q1
    have fin:Good P G M h w (Builtin.append_ #[t,t2] type #[c,c2]) r h'→Opq P (Post G M h w r h') ((execOp a.eval ⟨dst,.call ⟨.builtin .append,args, #[t,t2]⟩,type,pos,after,guard⟩).run P w):=by
     intro g
     have:=g.opq
     simpa [execOp,resolve,invoke,builtin,e2] using this
    split at e0
    ·rename_i el el2 hd hd2
     split at e0
     ·rename_i ti hti
      obtain⟨zv,E⟩:=Bg hti
      exact fin (ar1 hd hd2 (by simp) E hr q2 p2 e0)
     ·cases e0
    ·rename_i el hd hd2
     split at e0
     ·rename_i ti hti
      obtain⟨zv,E⟩:=Bg hti
      exact fin (ar1 hd hd2 (by simp) E hr q2 p2 e0)
     ·cases e0
    ·rename_i el kd hd hd2
     split at e0
     ·rename_i ti hti
      obtain⟨zv,E⟩:=Bg hti
      split at e0
      ·rename_i z hz
       split at e0
       ·rename_i zs hzs
        have:zv=z:=by have:=E.zero;rw [hz] at this;exact(Option.some.inj this).symm
        subst this
        exact fin (aDF hd hd2 E (Bj hzs M).1 hr q2 p2 e0)
       ·cases e0
      ·cases e0
     ·cases e0
    ·cases e0
   ·rename_i t x hts
    have htt:=htys _ hts
    subst htt
    obtain⟨c,cs,q1,q2,q3⟩:=hv.cons_inv
    have hcs:cs= []:=q3
    subst hcs
    have e2:args.map a.eval= #[c]:=by apply Array.ext';simpa using q1
    split at e0
    ·rename_i el hd
     have:=(aFu (P:=P) (ty:=type) hd hr q2 e0).opq
     simpa [execOp,resolve,invoke,builtin,e2] using this
    ·cases e0
   ·rename_i t t2 x y hts
    have htt:=htys _ hts
    subst htt
    obtain⟨c,cs,q1,q2,q3⟩:=hv.cons_inv
    obtain⟨c2,cs2,p1,p2,p3⟩:=q3.cons_inv
    have hcs:cs2= []:=p3
    subst hcs
    subst p1
    have e2:args.map a.eval= #[c,c2]:=by apply Array.ext';simpa using q1
    split at e0
    ·rename_i el hd
     split at e0
     ·rename_i ti hti
      have:=(aKp (P:=P) (t2:=t2) (ty:=type) hd hti hr q2 p2 e0).opq
      simpa [execOp,resolve,invoke,builtin,e2] using this
     ·cases e0
    ·cases e0
   ·rename_i x
    obtain⟨c,cs,q1,q2,q3⟩:=hv.cons_inv
    have hcs:cs= []:=q3
    subst hcs
    have e2:args.map a.eval= #[c]:=by apply Array.ext';simpa using q1
    have:=(aul (P:=P) (ts:=argTypes) (ty:=type) hr q2 e0).opq
    simpa [execOp,resolve,invoke,builtin,e2] using this
   ·rename_i pt it x y hts
    have htt:=htys _ hts
    subst htt
    obtain⟨c,cs,q1,q2,q3⟩:=hv.cons_inv
    obtain⟨c2,cs2,p1,p2,p3⟩:=q3.cons_inv
    have hcs:cs2= []:=p3
    subst hcs
    subst p1
    have e2:args.map a.eval= #[c,c2]:=by apply Array.ext';simpa using q1
    split at e0
    ·rename_i u hd
     split at e0
     ·rename_i hc1
      have:=(at6 (P:=P) (it:=it) (ty:=type) hd (Nat.eq_of_beq_eq_true hc1) hr q2 p2 e0).opq
      simpa [execOp,resolve,invoke,builtin,e2] using this
     ·cases e0
    ·cases e0
   ·rename_i x y
    obtain⟨c,cs,q1,q2,q3⟩:=hv.cons_inv
    obtain⟨c2,cs2,p1,p2,p3⟩:=q3.cons_inv
    have hcs:cs2= []:=p3
    subst hcs
    subst p1
    have e2:args.map a.eval= #[c,c2]:=by apply Array.ext';simpa using q1
    have:=(aNG (P:=P) (at_:=argTypes) (ty:=type) hr q2 p2 e0).opq
    simpa [execOp,resolve,invoke,builtin,e2] using this
   ·rename_i x y
    obtain⟨c,cs,q1,q2,q3⟩:=hv.cons_inv
    obtain⟨c2,cs2,p1,p2,p3⟩:=q3.cons_inv
    have hcs:cs2= []:=p3
    subst hcs
    subst p1
    have e2:args.map a.eval= #[c,c2]:=by apply Array.ext';simpa using q1
    have:=(aNH (P:=P) (at_:=argTypes) (ty:=type) hr q2 p2 e0).opq
    simpa [execOp,resolve,invoke,builtin,e2] using this
   ·rename_i t x hts
    have htt:=htys _ hts
    subst htt
    obtain⟨c,cs,q1,q2,q3⟩:=hv.cons_inv
    have hcs:cs= []:=q3
    subst hcs
    have e2:args.map a.eval= #[c]:=by apply Array.ext';simpa using q1
    split at e0
    ·rename_i el hd
     split at e0
     ·rename_i ti hti
      split at e0
      ·rename_i z hz
       split at e0
       ·rename_i zs hzs
        obtain⟨zv,E⟩:=Bg hti
        have hzz:zv=z:=by have:=E.zero;rw [hz] at this;exact(Option.some.inj this).symm
        subst hzz
        have:=(aIh (P:=P) (ty:=type) hd E (Bj hzs M).1 hr q2 e0).opq
        simpa [execOp,resolve,invoke,builtin,e2] using this
       ·cases e0
      ·cases e0
     ·cases e0
    ·cases e0
   ·cases e0
end
end Go.Vm

namespace Go.Vm
noncomputable section
variable{P:Program}{G:Nat}{M:Mp}{h h':Hp}{w:World}
abbrev F:=T V
abbrev Env:=List (Nat×V)
inductive Out where
 |nor (fr:F) (h:Hp)
 |ret (fr:F) (h:Hp)
 |ex (i:Nat) (fr:F) (h:Hp)
 |bad
def dn(t:Nat):Env→Option V
 | []=>none
 |(u,v)::l=>(match Nat.beq t u with|true=>some v|false=>dn t l)
def gt(p:Pos)(fr:F)(k:V→Out):Out:=match fr.get p with|some v=>k v|none=>.bad
def XT(t:Nat)(env:Env)(fr:F)(k:V→Env→Out):Out:=match dn t env with
 |some v=>k v env
 |none=>gt (Pos.of t) fr fun v=>k v ((t,v)::env)
def XW(x:Operand)(env:Env)(fr:F)(k:V→Env→Out):Out:=match x with
 | .tmp t=>XT t env fr k
 | .const c=>(match const c with|some v=>k v env|none=>.bad)
 | .global g=>k (.ptr (Pos.of g) 0) env
 | .func f=>k (.func (.func f) .nil .nil) env
def amK:List Operand→Env→F→(List V→Env→Out)→Out
 | [],env,_,k=>k [] env
 |x::l,env,fr,k=>XW x env fr fun v env=>amK l env fr fun vs env=>k (v::vs) env
def bnd(m:Hp→R V)(h:Hp)(k:V→Hp→Out):Out:=match m h with| .ok v h=>k v h| .bad=>.bad
def aDf(keep:Nat→Bool)(d:Nat)(v:V)(fr:F)(k:F→Out):Out:=match keep d with
 |true=>k (fr.set (some v) (Pos.of d))
 |false=>k fr
def xM(keep:Nat→Bool)(d:Option Nat)(v:V)(env:Env)(fr:F)(k:Env→F→Out):Out:=match d with
 |none=>k env fr
 |some d=>aDf keep d v fr fun fr=>k ((d,v)::env) fr
def opK(P:Program)(keep:Nat→Bool)(e:FuncId→Option Fun)(o:Oper)(env:Env)(fr:F)(h:Hp)(k:Env→F→Hp→Out):Out:=
 amK o.op.operands.toList env fr fun vs env=>bnd (iQ P e o.op vs) h fun v h=>xM keep o.dst v env fr fun env fr=>k env fr h
def avC(v:V)(b:Bool)(yes no:Out):Out:=match v with
 | .bool c=>(match b,c with|true,true=>yes|false,false=>yes|_,_=>no)
 | .tuple _=>no
 |_=>.bad
def lQ(P:Program)(keep:Nat→Bool)(e:FuncId→Option Fun)(ops:Array Oper):List Oper→Env→F→Hp→Out
 | [],_,fr,h=>.nor fr h
 |o::l,env,fr,h=>(match o.guard with
  |none=>opK P keep e o env fr h (lQ P keep e ops l)
  |some (j,b)=>(match (ops[j]?).bind (·.dst) with
   |none=>.bad
   |some d=>XT d env fr fun v env=>avC v b (opK P keep e o env fr h (lQ P keep e ops l)) (xM keep o.dst V.undef env fr fun env fr=>lQ P keep e ops l env fr h)))
def aB(a b:F→Hp→Out)(fr:F)(h:Hp):Out:=match a fr h with
 | .nor fr h=>b fr h
 | .ret fr h=>.ret fr h
 | .ex i fr h=>.ex i fr h
 | .bad=>.bad
def aqf(c:Operand)(a b:F→Hp→Out)(fr:F)(h:Hp):Out:=XW c [] fr fun v _=>match v with
 | .bool t=>(match t with|true=>a fr h|false=>b fr h)
 |_=>.bad
def bP(id:Nat)(b:F→Hp→Out)(fr:F)(h:Hp):Out:=match b fr h with
 | .nor fr h=>.nor fr h
 | .ret fr h=>.ret fr h
 | .ex i fr h=>(match Nat.beq i id with|true=>.nor fr h|false=>.ex i fr h)
 | .bad=>.bad
def dI(b:F→Hp→Out)(n:Nat):F→Hp→Out:=
 Nat.rec (motive:=fun _=>F→Hp→Out) (fun _ _=>.bad) (fun _ ih fr h=>match b fr h with
  | .nor fr h=>ih fr h
  | .ret fr h=>.ret fr h
  | .ex i fr h=>.ex i fr h
  | .bad=>.bad) n
def Nq(keep:Nat→Bool)(M:Mp)(fr:F)(a:Act):Prop:=∀t v,fr.get (Pos.of t)=some v→keep t=true∧Rp M v (a.tmps.getD t undef)
def lJ(M:Mp)(env:Env)(a:Act):Prop:=∀t v,dn t env=some v→Rp M v (a.tmps.getD t undef)
theorem Nq.mono{keep:Nat→Bool}{M N:Mp}(hle:M.le N){fr:F}{a:Act}(hf:Nq keep M fr a):Nq keep N fr a:=fun t v hv=>⟨(hf t v hv).1,(hf t v hv).2.mono hle⟩
theorem lJ.mono{M N:Mp}(hle:M.le N){env:Env}{a:Act}(he:lJ M env a):lJ N env a:=fun t v hv=>(he t v hv).mono hle
theorem lJ.nil(M:Mp)(a:Act):lJ M [] a:=fun t v hv=>by cases hv
theorem jA(t u:Nat)(v:V)(env:Env):dn t ((u,v)::env)=if t=u then some v else dn t env:=by
 simp only [dn]
 split
 ·rename_i hb;rw [if_pos (Nat.eq_of_beq_eq_true hb)]
 ·rename_i hb;rw [if_neg (Nat.ne_of_beq_eq_false hb)]
theorem lJ.cons{env:Env}{a:Act}(he:lJ M env a){t:Nat}{v:V}(hv:Rp M v (a.tmps.getD t undef)):lJ M ((t,v)::env) a:=fun u x hx=>by
 rw [jA] at hx
 split at hx
 ·rename_i h;subst h;cases hx;exact hv
 ·exact he u x hx
theorem KF{a:Act}{d:Nat}{c:Value}{t:Nat}(hd:d<a.tmps.size):(a.put (some d) c).tmps.getD t undef=if t=d then c else a.tmps.getD t undef:=by
 simp only [Act.put,Array.getD_eq_getD_getElem?]
 by_cases e:t=d
 ·subst e;rw [if_pos rfl,Array.getElem?_setIfInBounds_self_of_lt hd];rfl
 ·rw [if_neg e,Array.getElem?_setIfInBounds_ne (Ne.symm e)]
structure At (keep:Nat→Bool) (G N:Nat) (Df:List Deferred) (M:Mp) (fr:F) (h:Hp) (a:Act) (w:World):Prop where
 rel:Rel G M h w
 fr:Nq keep M fr a
 size:a.tmps.size=N
 plain:a.defers=Df
def jf(keep:Nat→Bool)(G N:Nat)(Df:List Deferred)(M:Mp)(h:Hp)(w:World):Out→Exit→Act→World→Prop
 | .nor fr h',.normal,a,w'=>∃M',At keep G N Df M' fr h' a w'∧Ext M h w M' h' w'
 | .ret fr h',.ret,a,w'=>∃M',At keep G N Df M' fr h' a w'∧Ext M h w M' h' w'
 | .ex i fr h',.exit j,a,w'=>j=i∧∃M',At keep G N Df M' fr h' a w'∧Ext M h w M' h' w'
 |_,_,_,_=>False
theorem jf.trans{keep:Nat→Bool}{N:Nat}{Df:List Deferred}{M':Mp}{w':World}(x:Ext M h w M' h' w'){o:Out}{e:Exit}{a:Act}{v:World}(q:jf keep G N Df M' h' w' o e a v):jf keep G N Df M h w o e a v:=by
 cases o<;>cases e<;>simp only [jf] at q⊢
 ·obtain⟨M2,p,y⟩:=q;exact⟨M2,p,x.trans y⟩
 ·obtain⟨M2,p,y⟩:=q;exact⟨M2,p,x.trans y⟩
 ·obtain⟨rfl,M2,p,y⟩:=q;exact⟨rfl,M2,p,x.trans y⟩
def jb(ro:Option Nat):Fence:={Fence.wide with round:=ro}
theorem aip{ro:Option Nat}{n:Nat}{P:Program}{f:FuncId}{args:Array Value}{w:World}{R:Ending→World→Prop}:CallsIn (jb ro) n P f args w R↔Calls P f args w R:=
 (show CallsIn (jb ro) n P f args w R↔CallsIn Fence.wide n P f args w R from by cases ro<;>exact Iff.rfl).trans callsIn_wide
theorem aHd{n:Nat}{P:Program}{c:Code}{Q:Exit→Act→World→Prop}{a:Act}{w:World}:c.wpIn (jb none) n P Q a w↔c.wp P Q a w:=wpIn_wide (n:=n)
theorem ayQ{ro:Option Nat}{P:Program}{m m':Machine}:StepsIn (Machine.fenced P (jb ro)) P m m'↔Steps P m m':=
 (show StepsIn (Machine.fenced P (jb ro)) P m m'↔StepsIn (Machine.fenced P Fence.wide) P m m' from by cases ro<;>exact Iff.rfl).trans stepsIn_wide
def eF(P:Program)(keep:Nat→Bool)(G N:Nat)(c:Code)(D:F→Hp→Out):Prop:=
 ∀(ro:Option Nat) (n:Nat) (Df:List Deferred) fr h M a w,D fr h≠ .bad→At keep G N Df M fr h a w→c.wpIn (jb ro) n P (jf keep G N Df M h w (D fr h)) a w
theorem eF.wp{P:Program}{keep:Nat→Bool}{G N:Nat}{c:Code}{D:F→Hp→Out}(hc:eF P keep G N c D)(Df:List Deferred)(fr:F)(h:Hp)(M:Mp)(a:Act)(w:World)(hne:D fr h≠ .bad)(at_:At keep G N Df M fr h a w):c.wp P (jf keep G N Df M h w (D fr h)) a w:=
 (aHd (n:=0)).1 (hc none 0 Df fr h M a w hne at_)
theorem jf.atJ{keep:Nat→Bool}{G N:Nat}{Df:List Deferred}{M:Mp}{h:Hp}{w:World}{out:Out}:¬LetsOut (jf keep G N Df M h w out):=fun⟨a,w',q⟩=>by
 cases out<;>exact q
theorem az0{keep:Nat→Bool}{t:Nat}{env:Env}{fr:F}{a:Act}{k:V→Env→Out}{out:Out}(hb:out≠ .bad)(hf:Nq keep M fr a)(he:lJ M env a)(e:XT t env fr k=out):
  ∃v env',k v env'=out∧Rp M v (a.tmps.getD t undef)∧lJ M env' a:=by
 unfold XT at e
 split at e
 ·rename_i v hv
  exact⟨v,env,e,he t v hv,he⟩
 ·unfold gt at e
  split at e
  ·rename_i v hv
   have:=(hf t v hv).2
   exact⟨v,_,e,this,he.cons this⟩
  ·exact absurd e.symm hb
theorem ahE{keep:Nat→Bool}{N:Nat}{Df:List Deferred}{x:Operand}{env:Env}{fr:F}{a:Act}{k:V→Env→Out}{out:Out}(hb:out≠ .bad)(at_:At keep G N Df M fr h a w)(hG:∀g,x=.global g→g<G)(he:lJ M env a)(e:XW x env fr k=out):
  ∃v env',k v env'=out∧Rp M v (a.eval x)∧lJ M env' a:=by
 cases x with
 |tmp t=>exact az0 hb at_.fr he e
 |const c=>
  simp only [XW] at e
  split at e
  ·rename_i v hv
   exact⟨v,env,e,UL hv M,he⟩
  ·exact absurd e.symm hb
 |global g=>
  obtain⟨n,hg⟩:=at_.rel.gl g (hG g rfl)
  refine⟨_,env,e,?_,he⟩
  have:=yF hg 0
  exact this
 |func f=>exact⟨_,env,e,⟨rfl,.func f,[],[],rfl,⟨rfl,rfl⟩,rfl,rfl,rfl⟩,he⟩
theorem auQ{keep:Nat→Bool}{N:Nat}{Df:List Deferred}{fr:F}{a:Act}{out:Out}(hb:out≠ .bad)(at_:At keep G N Df M fr h a w):∀{l:List Operand} {env:Env} {k:List V→Env→Out},(∀x∈l,∀g,x=.global g→g<G)→lJ M env a→amK l env fr k=out→
  ∃vs env',k vs env'=out∧bZ M vs (l.map a.eval)∧lJ M env' a
 | [],env,k,_,he,e=>⟨[],env,e,rfl,he⟩
 |x::l,env,k,hG,he,e=>by
  obtain⟨v,env',e1,hv,he1⟩:=ahE hb at_ (hG x (by simp)) he e
  obtain⟨vs,env2,e2,hvs,he2⟩:=auQ hb at_ (fun y hy=>hG y (by simp [hy])) he1 e1
  exact⟨v::vs,env2,e2,⟨_,_,hv,hvs,rfl⟩,he2⟩
def aJW:Op→Bool
 | .defer _=>false
 |_=>true
def oH(G N:Nat)(o:Oper):Bool:=
 (match o.dst with|some d=>Nat.blt d N|none=>true)&&((o.op.operands.toList.all fun x=>match x with| .global g=>Nat.blt g G|_=>true)&&aJW o.op)
def codeOk(G N:Nat):Code→Bool
 | .region _ ops _=>ops.toList.all (oH G N)
 | .seq a b=>codeOk G N a&&codeOk G N b
 | .cond c a b=>(match c with| .global g=>Nat.blt g G|_=>true)&&(codeOk G N a&&codeOk G N b)
 | .block _ b| .loop b| .scope b=>codeOk G N b
 |_=>true
theorem ahV{keep:Nat→Bool}{N:Nat}{Df:List Deferred}{d:Option Nat}{v:V}{env:Env}{fr:F}{k:Env→F→Out}{out:Out}{a:Act}{c:Value}(at_:At keep G N Df M fr h a w)(he:lJ M env a)(hd:∀x,d=some x→x<N)(hv:Rp M v c)(e:xM keep d v env fr k=out):
  ∃env' fr',k env' fr'=out∧At keep G N Df M fr' h (a.put d c) w∧lJ M env' (a.put d c):=by
 cases d with
 |none=>exact⟨env,fr,e,at_,he⟩
 |some d=>
  have hlt:d<a.tmps.size:=by rw [at_.size];exact hd d rfl
  have hp:(a.put (some d) c).defers=Df:=at_.plain
  have hs:(a.put (some d) c).tmps.size=N:=by simp [Act.put,at_.size]
  have henv:lJ M ((d,v)::env) (a.put (some d) c):=fun t x hx=>by
   rw [KF hlt]
   rw [jA] at hx
   split at hx
   ·rename_i ht;cases hx;rw [if_pos ht];exact hv
   ·rename_i ht;rw [if_neg ht];exact he t x hx
  simp only [xM,aDf] at e
  split at e
  ·rename_i hk
   refine⟨_,_,e,⟨at_.rel,fun t x hx=>?_,hs,hp⟩,henv⟩
   rw [KF hlt]
   by_cases ht:t=d
   ·subst ht
    rw [T.oK] at hx;cases hx
    exact⟨hk,by rw [if_pos rfl];exact hv⟩
   ·have hne:Pos.of t≠Pos.of d:=fun e=>ht (Pos.aeT e)
    rw [T.tY _ hne] at hx
    rw [if_neg ht]
    exact at_.fr t x hx
  ·rename_i hk
   refine⟨_,_,e,⟨at_.rel,fun t x hx=>?_,hs,hp⟩,henv⟩
   obtain⟨h1,h2⟩:=at_.fr t x hx
   have ht:t≠d:=fun e=>by subst e;rw [h1] at hk;cases hk
   rw [KF hlt,if_neg ht]
   exact⟨h1,h2⟩
theorem H6{N:Nat}{o:Oper}(h:oH G N o=true):∀x,o.dst=some x→x<N:=by
 intro x hx
 simp only [oH,hx,Bool.and_eq_true] at h
 simpa [Nat.blt_eq] using h.1
theorem aix{N:Nat}{o:Oper}(h:oH G N o=true):∀x∈o.op.operands.toList,∀g,x=.global g→g<G:=by
 intro x hx g hg
 simp only [oH,Bool.and_eq_true,List.all_eq_true] at h
 have:=h.2.1 x hx
 subst hg
 simpa [Nat.blt_eq] using this
theorem Gh{o:Oper}{a:Act}{K:Act→World→Prop}{Q:Exit→Act→World→Prop}{post:Value→World→Prop}(hq:Opq P post ((execOp a.eval o).run P w))(hk:∀c w',post c w'→K (a.put o.dst c) w'):o.wp P a w K Q:=by
 unfold Oper.wp
 revert hq
 generalize (execOp a.eval o).run P w=res
 intro hq
 cases res with
 |ok n w'=>
  cases n<;>simp only [Opq] at hq<;>simp only [Oper.upon]
  ·exact hk _ _ hq
  ·exact hk _ _ hq
  ·exact hq.mono fun e w'' ⟨c,he,hp⟩=>by subst he;exact hk _ _ hp
 |halt x w'=>exact hq.elim
theorem aeS{keep:Nat→Bool}{N:Nat}{Df:List Deferred}{e:FuncId→Option Fun}(hE:∀f F,e f=some F→aJ P G f F){o:Oper}(ho:oH G N o=true){env:Env}{fr:F}{a:Act}{k:Env→F→Hp→Out}{out:Out}(hb:out≠ .bad)(at_:At keep G N Df M fr h a w)(he:lJ M env a)
  (e0:opK P keep e o env fr h k=out) {K:Act→World→Prop} {Q:Exit→Act→World→Prop}
  (hK:∀env' fr' h' a' w' M',k env' fr' h'=out→At keep G N Df M' fr' h' a' w'→lJ M' env' a'→Ext M h w M' h' w'→K a' w'):o.wp P a w K Q:=by
 unfold opK at e0
 obtain⟨vs,env1,e1,hvs,he1⟩:=auQ hb at_ (aix ho) he e0
 unfold bnd at e1
 split at e1
 ·rename_i v h1 hop
  refine Gh (Kz hE hvs at_.rel hop) ?_
  rintro c w' ⟨M',hv,hr',hx⟩
  have at':At keep G N Df M' fr h1 a w':=⟨hr',at_.fr.mono hx.le,at_.size,at_.plain⟩
  obtain⟨env2,fr2,e2,at2,he2⟩:=ahV at' (he1.mono hx.le) (H6 ho) hv e1
  exact hK env2 fr2 h1 _ _ M' e2 at2 he2 hx
 ·exact absurd e1.symm hb
theorem aAb{keep:Nat→Bool}{N:Nat}{Df:List Deferred}{e:FuncId→Option Fun}(hE:∀f F,e f=some F→aJ P G f F){ops:Array Oper}(hops:∀o∈ops.toList,oH G N o=true){out:Out}(hb:out≠ .bad):
  ∀(l:List Nat) (env:Env) (fr:F) (h:Hp) (M:Mp) (a:Act) (w:World),(∀i∈l,i<ops.size)→At keep G N Df M fr h a w→lJ M env a→lQ P keep e ops (l.filterMap (ops[·]?)) env fr h=out→
   wpOps P ops (jf keep G N Df M h w out) l a w:=by
 intro l
 induction l with
 |nil=>
  intro env fr h M a w _ at_ he e0
  simp only [List.filterMap_nil,lQ] at e0
  subst e0
  exact⟨M,at_,.refl at_.rel⟩
 |cons i l ih=>
  intro env fr h M a w hl at_ he e0
  have hi:i<ops.size:=hl i (by simp)
  have ho:ops[i]?=some ops[i]:=Array.getElem?_eq_getElem hi
  rw [wpOps_cons]
  unfold wpOp
  simp only [ho]
  rw [List.filterMap_cons_some ho] at e0
  have hok:=hops ops[i] (by simp)
  have next:∀env' fr' h' a' w' M',lQ P keep e ops (l.filterMap (ops[·]?)) env' fr' h'=out→At keep G N Df M' fr' h' a' w'→lJ M' env' a'→Ext M h w M' h' w'→wpOps P ops (jf keep G N Df M h w out) l a' w':=by
   intro env' fr' h' a' w' M' e1 at1 he1 hx
   have:=ih env' fr' h' M' a' w' (fun j hj=>hl j (by simp [hj])) at1 he1 e1
   have mono:∀(l:List Nat) (a:Act) (w1:World) (Q Q':Exit→Act→World→Prop),(∀e a w,Q e a w→Q' e a w)→wpOps P ops Q l a w1→wpOps P ops Q' l a w1:=by
    intro l
    induction l with
    |nil=>intro a w1 Q Q' hq hw;exact hq _ _ _ hw
    |cons j l ihl=>
     intro a w1 Q Q' hq hw
     simp only [wpOps] at hw⊢
     split
     ·rename_i hn;simp only [hn] at hw;exact ihl _ _ _ _ hq hw
     ·rename_i o hn
      simp only [hn] at hw
      split
      ·rename_i hwn
       simp only [hwn,if_true] at hw
       rcases hw with hw|⟨h1,a2,w2,h2⟩
       ·refine .inl ?_
        unfold Oper.wp at hw⊢
        revert hw
        generalize (execOp a.eval o).run P w1=res
        intro hw
        cases res with
        |ok n w'=>
         cases n<;>simp only [Oper.upon] at hw⊢<;>first
          |exact ihl _ _ _ _ hq hw
          |exact Calls.mono hw (fun e w'' he=>by
            cases e<;>first
             |exact ihl _ _ _ _ hq he
             |exact hq _ _ _ he
             |(obtain⟨a3,w3,h3⟩:=he;exact⟨a3,w3,hq _ _ _ h3⟩))
          |exact Rows.mono hw (fun _ _ he=>ihl _ _ _ _ hq he)
        |halt x w'=>cases x<;>simp only [Oper.upon] at hw⊢<;>first|exact hq _ _ _ hw|exact hw
       ·exact .inr ⟨h1,a2,w2,hq _ _ _ h2⟩
      ·rename_i hwn
       simp only [hwn] at hw
       exact ihl _ _ _ _ hq hw
   exact mono _ _ _ _ _ (fun e a v q=>jf.trans hx q) this
  unfold lQ at e0
  split at e0
  ·rename_i hg
   have hw:Region.wanted ops[i] (yielded ops a.tmps)=true:=by simp [Region.wanted,hg]
   simp only [hw,if_true]
   exact .inl (aeS hE hok hb at_ he e0 next)
  ·rename_i j b hg
   split at e0
   ·exact absurd e0.symm hb
   ·rename_i d hd
    obtain⟨v,env1,e1,hv,he1⟩:=az0 hb at_.fr he e0
    unfold avC at e1
    split at e1
    ·rename_i c
     have hc:=hv.bool
     have hy:yielded ops a.tmps j=some c:=by
      unfold yielded
      rw [hd]
      simp only [Option.bind_some]
      rw [Array.getD_eq_getD_getElem?] at hc
      cases hq:a.tmps[d]? with
      |none=>rw [hq] at hc;cases hc
      |some z=>rw [hq] at hc;simp at hc;subst hc;rfl
     have hw:Region.wanted ops[i] (yielded ops a.tmps)=(c==b):=by
      simp only [Region.wanted,hg,hy]
      cases c<;>cases b<;>rfl
     split at e1
     ·simp only [hw,beq_self_eq_true,if_true]
      exact .inl (aeS hE hok hb at_ he1 e1 next)
     ·simp only [hw,beq_self_eq_true,if_true]
      exact .inl (aeS hE hok hb at_ he1 e1 next)
     ·rename_i hn1 hn2
      have hcb:(c==b)=false:=by
       cases c<;>cases b<;>first|rfl|exact absurd rfl (hn1 rfl)|exact absurd rfl (hn2 rfl)
      simp only [hw,hcb,Bool.false_eq_true,if_false]
      obtain⟨env2,fr2,e2,at2,he2⟩:=ahV at_ he1 (H6 hok) (pG M) e1
      exact next env2 fr2 h _ _ M e2 at2 he2 (.refl at_.rel)
    ·obtain⟨xs,_,hc⟩:=hv.tuple
     have hy:yielded ops a.tmps j=none:=by
      unfold yielded
      rw [hd]
      simp only [Option.bind_some]
      rw [Array.getD_eq_getD_getElem?] at hc
      cases hq:a.tmps[d]? with
      |none=>rfl
      |some z=>rw [hq] at hc;simp at hc;subst hc;rfl
     have hw:Region.wanted ops[i] (yielded ops a.tmps)=false:=by
      simp only [Region.wanted,hg,hy]
      cases b<;>rfl
     simp only [hw,Bool.false_eq_true,if_false]
     obtain⟨env2,fr2,e2,at2,he2⟩:=ahV at_ he1 (H6 hok) (pG M) e1
     exact next env2 fr2 h _ _ M e2 at2 he2 (.refl at_.rel)
    ·exact absurd e1.symm hb
theorem vY{N:Nat}{o:Oper}(h:oH G N o=true):∀c,o.op≠ .defer c:=by
 intro c hc
 simp only [oH,Bool.and_eq_true] at h
 have:=h.2.2
 rw [hc] at this
 cases this
theorem aEQ{ro:Option Nat}{n:Nat}{o:Oper}{K K':Act→World→Prop}{Q Q':Exit→Act→World→Prop}(hk:∀a w,K a w→K' a w)(hq:∀e a w,Q e a w→Q' e a w)(hd:∀c,o.op≠ .defer c){a:Act}{w:World}
  (h:o.wp P a w K Q):o.wpIn (jb ro) n P a w K' Q':=by
 refine⟨fun _ _=>trivial,?_⟩
 rw [Oper.semAt_eq _ _ _ hd]
 unfold Oper.wp at h
 revert h
 generalize (execOp a.eval o).run P w=res
 intro h
 cases res with
 |ok nx w'=>
  cases nx<;>simp only [Oper.upon,Oper.uponIn] at h⊢
  case value=>exact hk _ _ h
  case skip=>exact hk _ _ h
  case defer=>exact hk _ _ h
  case enter=>
   refine⟨fun hx=>by simp [jb,Fence.wide] at hx,aip.2 (Calls.mono h ?_)⟩
   intro e w2 he
   cases e
   ·exact hk _ _ he
   ·exact hq _ _ _ he
   ·obtain⟨a3,w3,h3⟩:=he
    exact⟨a3,w3,hq _ _ _ h3⟩
  case row=>
   refine⟨fun hx=>by simp [jb,Fence.wide] at hx,fun c cs _=>?_⟩
   obtain⟨v,w2,r2,s2⟩:=h c cs
   exact⟨v,w2,hk _ _ r2,ayQ.2 s2⟩
 |halt x w'=>cases x<;>simp only [Oper.upon,Oper.uponIn] at h⊢<;>first|exact hq _ _ _ h|exact h
theorem aCT{ro:Option Nat}{n:Nat}{ops:Array Oper}{Q Q':Exit→Act→World→Prop}(hq:∀e a w,Q e a w→Q' e a w)(hl:¬LetsOut Q)(hd:∀o∈ops.toList,∀c,o.op≠ .defer c):
  ∀(l:List Nat) (a:Act) (w:World),wpOps P ops Q l a w→wpOpsIn (jb ro) n P ops Q' l a w:=by
 intro l
 induction l with
 |nil=>intro a w h;exact hq _ _ _ h
 |cons i rest ih=>
  intro a w h
  simp only [wpOps] at h
  simp only [wpOpsIn]
  cases ho:ops[i]? with
  |none=>rw [ho] at h;exact ih a w h
  |some o=>
   rw [ho] at h
   simp only [] at h⊢
   have hm:o∈ops.toList:=by have:=Array.mem_of_getElem? ho;simpa using this
   split
   ·rename_i hw
    rw [if_pos hw] at h
    rcases h with h|⟨_,h⟩
    ·exact aEQ ih hq (hd o hm) h
    ·exact absurd h hl
   ·rename_i hw
    rw [if_neg hw] at h
    exact⟨fun _ _=>trivial,ih _ _ h⟩
theorem amH{ro:Option Nat}{n id:Nat}{ops:Array Oper}{Q:Exit→Act→World→Prop}{a:Act}{w:World}(hm:P.follows .mixedOrders=true)(hq:¬LetsOut Q)(hd:∀o∈ops.toList,∀c,o.op≠ .defer c)
  (h:wpAny P .any ops Q ops.size (Array.replicate ops.size false) a {w with drawn:=w.drawn+1}):(Code.region id ops true).wpIn (jb ro) n P Q a w:=
 wpIn_region_draw fun t=>aCT (fun _ _ _ h=>h) hq hd _ _ _ (by
  simp only [Region.schedule,hm,Bool.true_or,if_true]
  exact wpAny_sound ops.size t _ a _ h)
end
end Go.Vm
