/- Part of the claim: facts that its last text uses. No conditions. -/
import Derived.Test.YtfaolchpaooboaaGreatDoorJbAB
import Derived.Lib.UnsafeStr
import Derived.Laws.LoneSync
import Derived.Scope
import Derived.RangeFuncRecord
import Derived.RangeFuncCalls
set_option linter.all false
namespace Go.Vm
noncomputable section
variable{P:Program}{G:Nat}{M:Mp}{h h':Hp}{w:World}{r:V}
def Jd(d:TypeDesc):Bool:=match d with| .int _| .string| .bool=>true|_=>false
def lg(P:Program):List Field→Option (List (TypeDesc×Nat))
 | []=>some []
 |f::l=>(match decide (f.name= "_") with
  |true=>lg P l
  |false=>(match P.underlying f.type with
   |some d=>(match Jd d,lg P l with|true,some r=>some ((d,f.offset)::r)|_,_=>none)
   |none=>none))
def mZ:List (TypeDesc×Nat)→List V→List V→Option Bool
 | [],_,_=>some true
 |(d,o)::l,xs,ys=>(match qm o xs,qm o ys with
  |some x,some y=>(match iJ d x,dZ x y with
   |true,some b=>(match b with|true=>mZ l xs ys|false=>some false)
   |_,_=>none)
  |_,_=>none)
theorem ajV{t:TypeId}{d:TypeDesc}(hd:P.underlying t=some d){x y:V}{c e:Value}{b:Bool}(hf:iJ d x=true)(hx:Rp M x c)(hy:Rp M y e)(hb:dZ x y=some b)(n:Nat):(Op.equalIn (n+1) t c e).run P w=.ok b w:=by
 have hs:=sV hf hx hy hb
 cases d<;>cases x<;>first|(cases hf;done)|skip
 all_goals cases y<;>first|(cases hb;done)|skip
 ·cases hx.bool;cases hy.bool
  simp [Instr.sameNow] at hs
  simp [Op.equalIn,run_underlying hd,hs]
 ·cases hx.int;cases hy.int
  rename_i k a k' a'
  simp only [Instr.sameNow] at hs
  split at hs
  ·rename_i hk;subst hk;simp at hs;simp [Op.equalIn,run_underlying hd,hs]
  ·cases hs
 ·cases hx.str.2;cases hy.str.2
  simp only [Instr.sameNow] at hs
  have hs':=Option.some.inj hs
  simp only [Op.equalIn,Sem.run_bind,run_underlying hd,Result.andThen_ok,Sem.run_pure,hs']
theorem abm{t:TypeId}{d:TypeDesc}(hd:P.underlying t=some d)(hp:Jd d=true):(isAgg t).run P w=.ok false w:=by
 simp only [isAgg,Sem.run_bind,run_underlying hd,Result.andThen_ok]
 cases d<;>first|rfl|cases hp
theorem Je{t:TypeId}{d:TypeDesc}(hd:P.underlying t=some d)(hp:Jd d=true){xs:Array Value}{o:Nat}{c:Value}(hc:xs[o]?=some c):(part t xs o).run P w=.ok c w:=by
 unfold part
 rw [Sem.run_bind,abm hd hp]
 simp [hc]
def qV(n:Nat)(xs ys:Array Value)(f:Field)(_:Option Bool×Unit):Sem (ForInStep (Option Bool×Unit)):=
 if f.name≠ "_" then do
  if !(←Op.equalIn (n+1) f.type (←part f.type xs f.offset) (←part f.type ys f.offset)) then pure (ForInStep.done (some false,()))
  else pure (ForInStep.yield (none,()))
 else pure (ForInStep.yield (none,()))
theorem KF{xs ys:List V}{cs ds:List Value}(hx:aX M xs cs)(hy:aX M ys ds)(n:Nat):∀{l:List Field} {offs:List (TypeDesc×Nat)} {b:Bool},lg P l=some offs→mZ offs xs ys=some b→
  (forIn l (none,()) (qV n cs.toArray ds.toArray)).run P w=.ok (if b then(none,()) else(some false,())) w
 | [],offs,b,ho,hb=>by cases ho;cases hb;rfl
 |f::l,offs,b,ho,hb=>by
  unfold lg at ho
  rw [List.forIn_cons,Sem.run_bind]
  split at ho
  ·rename_i hn
   have hn':f.name= "_" :=by simpa using hn
   have:(qV n cs.toArray ds.toArray f (none,())).run P w=.ok (ForInStep.yield (none,())) w:=by simp [qV,hn']
   rw [this]
   exact KF hx hy n ho hb
  ·rename_i hn
   have hn':¬f.name= "_" :=by simpa using hn
   split at ho
   ·rename_i d hd
    split at ho
    ·rename_i r hp hr
     cases ho
     unfold mZ at hb
     rw [jB,jB] at hb
     split at hb
     ·rename_i x y hgx hgy
      obtain⟨c,hc,hrc⟩:=hx.get hgx
      obtain⟨e,he,hre⟩:=hy.get hgy
      have p1:(part f.type cs.toArray f.offset).run P w=.ok c w:=Je hd hp (by simpa using hc)
      have p2:(part f.type ds.toArray f.offset).run P w=.ok e w:=Je hd hp (by simpa using he)
      split at hb
      ·rename_i b' hf hk
       have p3:=ajV (w:=w) hd hf hrc hre hk n
       have:(qV n cs.toArray ds.toArray f (none,())).run P w=.ok (if b' then ForInStep.yield (none,()) else ForInStep.done (some false,())) w:=by
        unfold qV
        rw [if_pos hn']
        simp only [Sem.run_bind,p1,p2,p3,Result.andThen_ok]
        cases b'<;>rfl
       rw [this]
       cases b' with
       |true=>exact KF hx hy n hr hb
       |false=>cases hb;rfl
      ·cases hb
     ·cases hb
    ·cases ho
   ·cases ho
theorem ajW{t:TypeId}{fs:Array Field}(hd:P.underlying t=some (.struct fs))(hs:P.stoodInHeld t=false){offs:List (TypeDesc×Nat)}(ho:lg P fs.toList=some offs){xs ys:List V}{cs ds:List Value}(hx:aX M xs cs)(hy:aX M ys ds){b:Bool}(hb:mZ offs xs ys=some b)(n:Nat):
  (Op.equalIn (n+1+1) t (.agg cs.toArray) (.agg ds.toArray)).run P w=.ok b w:=by
 unfold Op.equalIn
 simp only [Sem.run_bind,run_underlying hd,Result.andThen_ok,run_program,hs]
 simp only [Bool.false_eq_true,if_false]
 rw [←Array.forIn_toList]
 have hl:=KF (w:=w) hx hy n ho hb
 unfold qV at hl
 rw [Sem.run_bind,hl]
 cases b<;>rfl
def structOf(d:TypeDesc):Option (Array Field):=match d with| .struct fs=>some fs|_=>none
def qZ(P:Program)(op:BinOp)(t:TypeId)(fs:Array Field)(x y:V)(h:Hp):R V:=match x,y with
 | .agg xs,.agg ys=>(match P.stoodInHeld t,P.eqGuardType P.depth t,lg P fs.toList with
  |false,false,some offs=>(match mZ offs xs.list ys.list with
   |some b=>(match op with| .eql=>cO b h| .neq=>cO (not b) h|_=>.bad)
   |none=>.bad)
  |_,_,_=>.bad)
 |_,_=>.bad
theorem aj7{op:BinOp}{t:TypeId}{fs:Array Field}{xo yo:Operand}(hd:P.underlying t=some (.struct fs)){x y:V}{a b:Value}(hr:Rel G M h w)(hx:Rp M x a)(hy:Rp M y b)(e:qZ P op t fs x y h=.ok r h'):
  Good P G M h w (do eqGuard op t xo yo a b;binOp op t a b) r h':=by
 unfold qZ at e
 split at e
 ·rename_i xs ys
  obtain⟨cs,hcs,_,rfl⟩:=hx.agg
  obtain⟨ds,hds,_,rfl⟩:=hy.agg
  split at e
  ·rename_i offs h1 h2 h3
   split at e
   ·rename_i q hq
    have hrun:=ajW (w:=w) hd h1 h3 hcs hds hq 9998
    have heq:(Op.equal t (.agg cs.toArray) (.agg ds.toArray)).run P w=.ok q w:=by
     unfold Op.equal
     rw [show Op.maxDepth=9998+1+1 from rfl];exact hrun
    split at e
    ·rw [dF] at e;cases e
     refine .same hr (c:=.bool q) ?_ (iZ M q)
     simp [eqGuard,binOp,h2,heq]
    ·rw [dF] at e;cases e
     refine .same hr (c:=.bool (!q)) ?_ (iZ M _)
     simp [eqGuard,binOp,h2,heq]
    ·cases e
   ·cases e
  ·cases e
 ·cases e
end
end Go.Vm
namespace Go.Vm
noncomputable section
variable{P:Program}{G:Nat}{M:Mp}{h h':Hp}{w:World}{r:V}
def amM(x:V)(h:Hp):R V:=match x with
 | .af=>.ok (.int .i64 (.ofNat 0)) h
 | .slice _ _ _ c=>(match c with| .kn n=>.ok (.int .i64 (.ofNat n)) h| .un _=>.bad)
 |_=>.bad
theorem aFy{t ty el:TypeId}(hd:P.underlying t=some (.slice el)){x:V}{a:Value}(hr:Rel G M h w)(hx:Rp M x a)(e:amM x h=.ok r h'):Good P G M h w (Builtin.cap_ #[t] ty #[a]) r h':=by
 unfold amM at e
 split at e
 ·cases e
  cases hx.af
  refine .same hr (c:=.int .i64 (.ofNat 0)) ?_ (dK M _ _)
  simp [Builtin.cap_,run_underlying hd,goInt]
 ·rename_i i o n c
  obtain⟨L,k,hL,hc,rfl⟩:=hx.slice
  split at e
  ·rename_i m
   cases e
   obtain⟨rfl,_⟩:=hc
   refine .same hr (c:=.int .i64 (.ofNat k)) ?_ (dK M _ _)
   simp [Builtin.cap_,run_underlying hd,goInt]
  ·cases e
 ·cases e
def abG(sz:Nat)(d s:V)(h:Hp):R V:=match d with
 | .slice i o n _=>lY sz s h fun m new=>(match Nat.ble m n with
  |true=>(match m with
   |0=>.ok (.int .i64 (.ofNat 0)) h
   |_+1=>dL h i fun wr cs=>(match wr with
    | .rw t f=>(match iV o new cs with|some cs'=>.ok (.int .i64 (.ofNat m)) (h.put i (some (.cells (.rw t f) cs')))|none=>.bad)
    | .ro=>.bad))
  |false=>.bad)
 |_=>.bad
theorem IJ{t t2 ty el:TypeId}{ti:TypeInfo}(hd:P.underlying t=some (.slice el))(hti:P.info? el=some ti){a:Addr}{n k m:Nat}{c:Value}{news:List Value}(hl:(Builtin.lenOf c).run P w=.ok m w)(hf:(Builtin.firstCells ti.size m c).run P w=.ok news.toArray w)(hm:m≤n){w':World}
  (hs:(storeCells a news).run P w=.ok () w'):(Builtin.copy_ #[t,t2] ty #[.slice (some a) n k,c]).run P w=.ok (.int .i64 (.ofNat m)) w':=by
 have hmin:Nat.min m n=m:=Nat.min_eq_left hm
 simp only [Builtin.copy_,List.getElem?_toArray,List.getElem?_cons_zero,List.getElem?_cons_succ,Sem.run_bind,run_underlying hd,Result.andThen_ok,hl,hmin,sizeOf,typeInfo]
 simp [hti,hf,hs,goInt]
theorem ayS{t t2 ty el:TypeId}{ti:TypeInfo}(hd:P.underlying t=some (.slice el))(hti:P.info? el=some ti){x y:V}{a b:Value}(hr:Rel G M h w)(hx:Rp M x a)(hy:Rp M y b)(e:abG ti.size x y h=.ok r h'):Good P G M h w (Builtin.copy_ #[t,t2] ty #[a,b]) r h':=by
 unfold abG at e
 split at e
 ·rename_i i o n cap
  obtain⟨L,k,hL,hc,rfl⟩:=hx.slice
  obtain⟨m,new,news,e,hlen,hnew,hnl,hns,hnews⟩:=xW (P:=P) hr hy e
  split at e
  ·rename_i hm
   have hm:=Nat.le_of_ble_eq_true hm
   have hnwl:=hnew.length
   cases m with
   |zero=>
    cases e
    have hnn:news= []:=List.length_eq_zero_iff.1 (by rw [hnwl,hnl];omega)
    subst hnn
    exact .same hr (IJ hd hti hlen (hnews w rfl) hm (by simp [storeCells])) (dK M _ _)
   |succ m=>
    simp only [] at e
    obtain⟨wr,cs,hi,e⟩:=dG e
    split at e
    ·split at e
     ·rename_i hp
      cases e
      obtain⟨w',g1,g2,g3⟩:=hr.store (P:=P) (gZ hi) hL hp hnew hns
      exact⟨_,w',M,IJ hd hti hlen (hnews w rfl) hm g1,dK M _ _,g2,g3⟩
     ·cases e
    ·cases e
  ·cases e
 ·cases e
def Jz(zs:List V)(x:V)(h:Hp):R V:=match x with
 | .af=>.ok V.undef h
 | .slice i o n _=>(match n with
  |0=>.ok V.undef h
  |m+1=>dL h i fun wr cs=>(match wr with
   | .rw t f=>(match iV o (times (m+1) zs) cs with|some cs'=>.ok V.undef (h.put i (some (.cells (.rw t f) cs')))|none=>.bad)
   | .ro=>.bad))
 |_=>.bad
theorem asV{t ty el:TypeId}{ti:TypeInfo}{z:Value}(hd:P.underlying t=some (.slice el))(E:ElemOk P el ti z){zs:List V}(hzs:aX M zs z.cells.toList){x:V}{a:Value}(hr:Rel G M h w)(hx:Rp M x a)(e:Jz zs x h=.ok r h'):
  Good P G M h w (Builtin.clear_ #[t] ty #[a]) r h':=by
 unfold Jz at e
 split at e
 ·cases e
  cases hx.af
  exact .same hr (by simp [Builtin.clear_,run_underlying hd];rfl) (gu M)
 ·rename_i i o n cap
  obtain⟨L,k,hL,hc,rfl⟩:=hx.slice
  split at e
  ·cases e
   exact .same hr (by simp [Builtin.clear_,run_underlying hd];rfl) (gu M)
  ·rename_i m
   obtain⟨wr,cs,hi,e⟩:=dG e
   split at e
   ·split at e
    ·rename_i hp
     cases e
     have hzc:(Builtin.zeroCells z.cells (m+1)).toList=(List.replicate (m+1) z.cells.toList).flatten:=by
      unfold Builtin.zeroCells
      exact nP z.cells (m+1) (by rw [E.cells];exact E.size)
     obtain⟨w',g1,g2,g3⟩:=hr.store (P:=P) (gZ hi) hL hp (uM hzs (m+1)) (by rw [←hzc];exact uq E.plain (by rw [E.cells];exact E.size) (m+1))
     refine⟨_,w',M,?_,gu M,g2,g3⟩
     rw [←hzc] at g1
     simp [Builtin.clear_,run_underlying hd,zeroValue,typeInfo,E.info,E.zero,g1]
     rfl
    ·cases e
   ·cases e
 ·cases e
def sH(x:V)(h:Hp):R V:=match x with
 | .af=>.ok .fJ h
 | .slice i o n _=>(match n with|0=>.bad|_+1=>.ok (.ptr i o) h)
 |_=>.bad
theorem IC{ts:Array TypeId}{ty:TypeId}{x:V}{a:Value}(hr:Rel G M h w)(hx:Rp M x a)(e:sH x h=.ok r h'):Good P G M h w (Builtin.unsafeSliceData_ ts ty #[a]) r h':=by
 unfold sH at e
 split at e
 ·cases e
  cases hx.af
  exact .same hr (Go.Lib.run_unsafeSliceData_nil w ts ty 0 0) ⟨rfl,rfl⟩
 ·rename_i i o n cap
  obtain⟨L,k,hL,hc,rfl⟩:=hx.slice
  split at e
  ·cases e
  ·rename_i m
   cases e
   refine .same hr (Go.Lib.run_unsafeSliceData_row w ts ty (L.at o) (m+1) k ?_) (jO hL o)
   cases cap<;>simp only [xU] at hc<;>omega
 ·cases e
def zZ(u:TypeId)(x n:V)(h:Hp):R V:=iU n fun n=>match x with
 | .fJ=>(match n with|0=>.ok (.str []) h|_+1=>.bad)
 | .ptr i o=>(match n with
  |0=>.ok (.str []) h
  |_+1=>dL h i fun wr cs=>(match wr with
   | .rw t _=>(match Nat.beq t u with
    |true=>(match fP n (eY o cs) with
     |some l=>(match jd l with
      |some s=>(match Nat.ble s.length 9223372036854775807 with|true=>.ok (.str s) (h.put i (some (.cells .ro cs)))|false=>.bad)
      |none=>.bad)
     |none=>.bad)
    |false=>.bad)
   | .ro=>.bad))
 |_=>.bad
theorem Am{e:TypeId}(hc:P.cellsOf e=1)(count off n:Nat)(hn:off+n≤count):liesAt P P.depth e count off e n=true:=by
 have hd:P.depth=(2*(P.types.size+Made.depth)+1)+1:=rfl
 rw [hd]
 simp only [liesAt,Bool.or_eq_true]
 left
 rw [hd]
 simp [rowAt,hc,hn,sameLayout,Nat.mod_one]
theorem uJ{pt it ty e:TypeId}(hp:P.underlying pt=some (.pointer e))(hc:P.cellsOf e=1){g off cells:Nat}(hsh:w.shape? g=some (e,cells)){l:List UInt8}(h0:l≠ [])(hn:off+l.length≤cells)(h63:l.length≤9223372036854775807)
  (hcell:∀j x,l[j]?=some x→w.cell? ((⟨g,off,none⟩:Addr).add j)=some (.int .u8 x.toNat)) {k:IntKind}:
  (Builtin.unsafeString_ #[pt,it] ty #[.pointer (some ⟨g,off,none⟩),.int k l.length]).run P w=.ok (.string ⟨l.toArray⟩) (w.freeze ⟨g,off,none⟩ l.length):=by
 have hl:l.length≠0:=by simpa using h0
 have hlb:=Go.Lib.run_loadBytes (P:=P) w l ⟨g,off,none⟩ .empty hcell
 have hlies:=Am (P:=P) hc (cells / P.cellsOf e) off l.length (by rw [hc];simpa using hn)
 have h63':¬(9223372036854775807:Int)<(l.length:Int):=by omega
 have hmax:IntKind.i64.max=9223372036854775807:=rfl
 have hneg:¬(l.length:Int)<0:=by omega
 show(bind (_root_.Go.asInt (.int k l.length)) _:Sem Value).run P w=_
 simp [_root_.Go.asInt,asIntOf,hmax,h63',hneg,hl,variablesAt,hsh,elemOf,run_underlying hp,hlies,hlb]
theorem Ir{pt it ty u:TypeId}(hp:P.underlying pt=some (.pointer u))(hc1:P.cellsOf u=1){x y:V}{a b:Value}(hr:Rel G M h w)(hx:Rp M x a)(hy:Rp M y b)(e:zZ u x y h=.ok r h'):
  Good P G M h w (Builtin.unsafeString_ #[pt,it] ty #[a,b]) r h':=by
 obtain⟨k,n,rfl,e1⟩:=kz e
 clear e
 cases hy.int
 have none_:∀p:Option Addr,(Builtin.unsafeString_ #[pt,it] ty #[.pointer p,.int k (Int.ofNat 0)]).run P w=.ok (.string .empty) w:=by
  intro p
  have hmax:IntKind.i64.max=9223372036854775807:=rfl
  cases p with
  |none=>
   rfl
  |some a=>
   rfl
 have he:Rp M (.str []) (.string .empty):=oM (s:= []) (by simp)
 split at e1
 ·cases hx.fJ
  split at e1
  ·cases e1
   exact .same hr (none_ _) he
  ·cases e1
 ·rename_i i o
  obtain⟨L,hL,rfl⟩:=hx.ptr
  split at e1
  ·cases e1
   exact .same hr (none_ _) he
  ·rename_i m
   obtain⟨wr,cs,hi,e2⟩:=dG e1
   split at e2
   ·rename_i t f
    split at e2
    ·rename_i htu
     have htu':t=u:=Nat.eq_of_beq_eq_true htu
     subst htu'
     split at e2
     ·rename_i l hl
      split at e2
      ·rename_i s hs
       split at e2
       rotate_left
       ·cases e2
       rename_i hbig
       have hbig:=Nat.le_of_ble_eq_true hbig
       cases e2
       have hob:=gZ hi
       obtain⟨L',hL',cc,el1,fr,hb,hsz,hcell,hel,hfr,_⟩:=hr.ob i _ hob
       rw [hL] at hL';cases hL'
       subst hel
       obtain⟨xs,hxl,hlen,hss,hxc⟩:=hr.cells hi hL hl
       obtain⟨hb256,hxs⟩:=FP hs hxl
       have hsl:s.length=m+1:=by
        have:=congrArg List.length hxs
        simp at this;omega
       have hsh:w.shape? L.blk=some (el1,cc.size):=by simp [World.shape?,hb]
       have hin:L.off+o+(m+1)≤cc.size:=by
        have h1:=hxc m xs[m] (List.getElem?_eq_getElem (by omega))
        have h2:w.cell? ((L.at o).add m)=cc[L.off+o+m]?:=by
         by_cases hm0:m=0
         ·subst hm0;simp [Loc.at,Addr.add,World.cell?,hb]
         ·simp [Loc.at,Addr.add,hm0,World.cell?,hb]
        rw [h2] at h1
        have:=(Array.getElem?_eq_some_iff.1 h1).1
        omega
       ·have hlu:(s.map UInt8.ofNat).length=m+1:=by simp [hsl]
        have hrun:=uJ (P:=P) (w:=w) (pt:=pt) (it:=it) (ty:=ty) (e:=el1) hp hc1 (g:=L.blk) (off:=L.off+o) hsh (l:=s.map UInt8.ofNat) (by intro hn;rw [hn] at hlu;simp at hlu) (by rw [hlu];exact hin) (by rw [hlu];omega) (fun j y hj=>by
         rw [List.getElem?_map] at hj
         cases hsj:s[j]? with
         |none=>rw [hsj] at hj;cases hj
         |some b=>
          rw [hsj] at hj
          simp only [Option.map_some,Option.some.injEq] at hj
          subst hj
          have h3:xs[j]?=some (.int .u8 (b:Int)):=by rw [hxs];simp [hsj]
          have h4:=hxc j _ h3
          rw [oJ (hb256 b (List.mem_of_getElem? hsj))]
          exact h4) (k:=k)
        rw [hlu] at hrun
        have ht:=hr.turn hob hL rfl (w':=w.freeze ⟨L.blk,L.off+o,none⟩ (m+1)) (o':=.cells .ro cs) (by simp [World.freeze]) (fun q hq=>by
         simp only [World.freeze]
         rw [if_neg (by omega),Array.getElem?_modify,if_neg (Ne.symm hq)]) rfl rfl rfl (by
         refine⟨cc,el1,(if fr.1==fr.2 then(L.off+o,L.off+o+(m+1)) else(min fr.1 (L.off+o),max fr.2 (L.off+o+(m+1)))),?_,hsz,hcell,trivial⟩
         simp only [World.freeze]
         rw [if_neg (by omega),Array.getElem?_modify,if_pos rfl,hb]
         rfl)
        exact⟨_,_,M,hrun,oM hb256,ht.1,ht.2⟩
      ·cases e2
     ·cases e2
    ·cases e2
   ·cases e2
 ·cases e1
def Js(x:V)(h:Hp):R V:=match x with
 | .fJ=>.ok .fJ h
 | .ptr i o=>dL h i fun _ cs=>(match qm o cs with|some _=>.ok (.ptr i o) h|none=>.bad)
 |_=>.bad
theorem aEp{s d t:TypeId}(hs:P.underlying s=some (.pointer t))(hd:P.underlying d=some .unsafePointer){ti:TypeInfo}(hti:P.info? t=some ti)(hsz:ti.size≠0){x:V}{a:Value}(hr:Rel G M h w)(hx:Rp M x a)(e:Js x h=.ok r h'):Good P G M h w (convert s d a) r h':=by
 unfold Js at e
 split at e
 ·cases e
  cases hx.fJ
  refine .same hr (c:=.pointer none) ?_ ⟨rfl,rfl⟩
  simp [convert,run_underlying hs,run_underlying hd,Conv.unsafePointer]
 ·rename_i i o
  obtain⟨L,hL,rfl⟩:=hx.ptr
  obtain⟨wr,cs,hi,e⟩:=dG e
  rw [jB] at e
  split at e
  ·rename_i v hv
   cases e
   obtain⟨y,hy,_,_⟩:=hr.cell hi hL hv
   exact .same hr (run_convert_to_unsafe hs hd (by simp [hti,hsz]) hy) (jO hL o)
  ·cases e
 ·cases e
def vT(P:Program)(u:TypeId)(x:V)(h:Hp):R V:=match x with
 | .fJ=>.ok .fJ h
 | .ptr i o=>dL h i fun wr cs=>(match wr with
  | .rw t full=>(match full,qm o cs,liesAt P P.depth t (cs.length / P.cellsOf t) o u 1 with
   |true,some _,true=>.ok (.ptr i o) h
   |_,_,_=>.bad)
  | .ro=>.bad)
 |_=>.bad
theorem anl{s d u:TypeId}(hs:P.underlying s=some .unsafePointer)(hd:P.underlying d=some (.pointer u)){iu:TypeInfo}(hiu:P.info? u=some iu){x:V}{a:Value}(hr:Rel G M h w)(hx:Rp M x a)(e:vT P u x h=.ok r h'):Good P G M h w (convert s d a) r h':=by
 unfold vT at e
 split at e
 ·cases e
  cases hx.fJ
  refine .same hr (c:=.pointer none) ?_ ⟨rfl,rfl⟩
  simp [convert,run_underlying hs,run_underlying hd,Conv.unsafePointer]
 ·rename_i i o
  obtain⟨L,hL,rfl⟩:=hx.ptr
  obtain⟨wr,cs,hi,e⟩:=dG e
  split at e
  ·rename_i t full
   split at e
   ·rename_i v hv hla
    cases e
    rw [jB] at hv
    obtain⟨y,hy,_,_⟩:=hr.cell hi hL hv
    obtain⟨L',hL',cc,el1,fr,hb,hsz,hcell,hel,hfr,hfull⟩:=hr.ob i _ (gZ hi)
    rw [hL] at hL';cases hL'
    subst hel
    obtain⟨hoff,hn⟩:=hfull rfl
    have hsh:w.shape? L.blk=some (el1,cc.size):=by simp [World.shape?,hb]
    have hsh':w.shape? (L.at o).block=some (el1,cc.size):=hsh
    have ho:(L.at o).off=o:=by simp [Loc.at,hoff]
    have hcc:cc.size=cs.length:=by rw [hsz,hn]
    refine .same hr (c:=.pointer (some (L.at o))) ?_ (jO hL o)
    simp [convert,run_underlying hs,run_underlying hd,Conv.unsafePointer,Conv.seenAt,viewAt,sizeOf,typeInfo,variablesAt,hsh',ho,hcc,hla,hiu]
   ·cases e
  ·cases e
 ·cases e
end
end Go.Vm
namespace Go.Vm
noncomputable section
variable{P:Program}{G:Nat}{M:Mp}{h h':Hp}{w:World}{r:V}
abbrev Fun:=List V→Hp→R V
def Post(G:Nat)(M:Mp)(h:Hp)(w:World)(r:V)(h':Hp)(c:Value)(w':World):Prop:=∃M',Rp M' r c∧Rel G M' h' w'∧Ext M h w M' h' w'
def Opq(P:Program)(post:Value→World→Prop):Result Next→Prop
 | .ok (.value c) w'=>post c w'
 | .ok .skip w'=>post undef w'
 | .ok (.enter f args) w'=>Calls P f args w' fun e w''=>∃c,e=.returned c∧post c w''
 |_=>False
theorem Good.opq{s:Sem Value}(g:Good P G M h w s r h'):Opq P (Post G M h w r h') ((do pure (.value (←s)):Sem Next).run P w):=by
 obtain⟨c,w',M',e,g1,g2,g3⟩:=g
 simp [e]
 exact⟨M',g1,g2,g3⟩
def aj(P:Program)(G:Nat)(f:FuncId)(F:Fun):Prop:=
 ∀(args:List V) (h:Hp) (r:V) (h':Hp) (M:Mp) (w:World) (cargs:List Value),F args h=.ok r h'→Rel G M h w→aX M args cargs→
  Opq P (Post G M h w r h') ((callFunc f cargs.toArray).run P w)
def oh(P:Program)(el:TypeId):Option TypeInfo:=match P.info? el with
 |none=>none
 |some ti=>(match ti.zero with
  |none=>none
  |some z=>(match Nat.beq z.cells.size ti.size,z.cells.toList.all scalar,Nat.blt 0 ti.size,Nat.blt 0 ti.bytes with
   |true,true,true,true=>some ti
   |_,_,_,_=>none))
theorem kU{el:TypeId}{ti:TypeInfo}(e:oh P el=some ti):∃z,ElemOk P el ti z:=by
 unfold oh at e
 split at e
 ·cases e
 ·rename_i ti' hi
  split at e
  ·cases e
  ·rename_i z hz
   split at e
   ·rename_i h1 h2 h3 h4
    cases e
    exact⟨z,hi,hz,Nat.eq_of_beq_eq_true h1,fun y hy=>List.all_eq_true.1 h2 y hy,by simpa [Nat.blt_eq] using h3,by simpa [Nat.blt_eq] using h4⟩
   ·cases e
def rP(P:Program)(t:TypeId):Option (List V):=match P.info? t with
 |none=>none
 |some it=>(match it.zero with
  |none=>none
  |some z=>nH z.cells.toList)
theorem lX{t:TypeId}{zs:List V}(e:rP P t=some zs):∃it z,P.info? t=some it∧it.zero=some z∧∀M:Mp,aX M zs z.cells.toList∧∀y∈z.cells.toList,scalar y=true:=by
 unfold rP at e
 split at e
 ·cases e
 ·rename_i it hit
  split at e
  ·cases e
  ·rename_i z hz
   exact⟨it,z,hit,hz,fun M=>lH e M⟩
def TY(P:Program)(fs:List Field):Option (List (Nat×Nat)):=fs.mapM fun f=>(P.info? f.type).map fun i=>(f.offset,i.size)
def Et(d:TypeDesc):Bool:=match d with| .struct _| .array _ _=>true|_=>false
def D5(P:Program)(d:TypeDesc):Option Nat:=match d with
 | .pointer e=>(match P.info? e with|some ti=>some ti.size|none=>none)
 |_=>some 0
def JA(e:FuncId→Option Fun)(f:V)(args:List V)(h:Hp):R V:=match f with
 | .func fn a b=>(match fn with
  | .func g=>(match e g with|some F=>F (a.list++(args++b.list)) h|none=>.bad)
  |_=>.bad)
 |_=>.bad
def sJ(P:Program)(b:Builtin)(ts:List TypeId)(vs:List V)(h:Hp):R V:=
 match b,ts,vs with
 | .len,[t],[x]=>(match P.underlying t with
  |some (.array n _)=>UR n h
  |some d=>fH (jT d) x h
  |none=>.bad)
 | .append,[t,t2],[s,x]=>(match P.underlying t,P.underlying t2 with
  |some (.slice el),some (.slice _)=>(match oh P el with|some ti=>dQ el ti.size ti.bytes s x h|none=>.bad)
  |some (.slice el),some .string=>(match oh P el with|some ti=>dQ el ti.size ti.bytes s x h|none=>.bad)
  |_,_=>.bad)
 | .cap,[t],[x]=>(match P.underlying t with
  |some (.slice _)=>amM x h
  |_=>.bad)
 | .copy,[t,_],[x,y]=>(match P.underlying t with
  |some (.slice el)=>(match P.info? el with|some ti=>abG ti.size x y h|none=>.bad)
  |_=>.bad)
 | .unsafeSliceData,_,[x]=>sH x h
 | .unsafeString,[pt,_],[x,y]=>(match P.underlying pt with
  |some (.pointer u)=>(match Nat.beq (P.cellsOf u) 1 with|true=>zZ u x y h|false=>.bad)
  |_=>.bad)
 | .min,_,[x,y]=>abB x y h
 | .max,_,[x,y]=>abC x y h
 | .clear,[t],[x]=>(match P.underlying t with
  |some (.slice el)=>(match oh P el with
   |some ti=>(match ti.zero with
    |some z=>(match nH z.cells.toList with|some zs=>Jz zs x h|none=>.bad)
    |none=>.bad)
   |none=>.bad)
  |_=>.bad)
 |_,_,_=>.bad
def v0(vs:List V)(k:R V):R V:=match vs with| []=>k|_=>.bad
def v1(vs:List V)(k:V→R V):R V:=match vs with| [x]=>k x|_=>.bad
def v2(vs:List V)(k:V→V→R V):R V:=match vs with| [x,y]=>k x y|_=>.bad
def v3(vs:List V)(k:V→V→V→R V):R V:=match vs with| [x,y,z]=>k x y z|_=>.bad
theorem aIo{vs:List V}{k:R V}(e:v0 vs k=.ok r h'):vs= []∧k=.ok r h':=by
 unfold v0 at e;split at e<;>first|exact⟨rfl,e⟩|cases e
theorem kD{vs:List V}{k:V→R V}(e:v1 vs k=.ok r h'):∃x,vs= [x]∧k x=.ok r h':=by
 unfold v1 at e;split at e<;>first|exact⟨_,rfl,e⟩|cases e
theorem pU{vs:List V}{k:V→V→R V}(e:v2 vs k=.ok r h'):∃x y,vs= [x,y]∧k x y=.ok r h':=by
 unfold v2 at e;split at e<;>first|exact⟨_,_,rfl,e⟩|cases e
theorem abg{vs:List V}{k:V→V→V→R V}(e:v3 vs k=.ok r h'):∃x y z,vs= [x,y,z]∧k x y z=.ok r h':=by
 unfold v3 at e;split at e<;>first|exact⟨_,_,_,rfl,e⟩|cases e
def NW(P:Program)(t:TypeId)(is:List Nat)(vs:List V)(h:Hp):R V:=match P.underlying t,rP P t with
 |some (.struct fs),some z=>(match TY P fs.toList with
  |some pl=>(match placed (fun i=>pl.toArray[i]?) (is.zip vs) with|some qs=>oU z qs h|none=>.bad)
  |none=>.bad)
 |some (.array _ el),some z=>(match P.info? el with
  |some ie=>(match placed (fun i=>some (i*ie.size,ie.size)) (is.zip vs) with|some qs=>oU z qs h|none=>.bad)
  |none=>.bad)
 |_,_=>.bad
def aFx(P:Program)(t:TypeId)(vs:List V)(h:Hp):R V:=match vs with
 | []=>(match P.underlying t with
  |some (.slice el)=>(match P.info? el with|some _=>.ok (.slice h.next 0 0 (.kn 0)) (h.new (.cells (.rw el true) []))|none=>.bad)
  |_=>.bad)
 |_=>.bad
def x9(P:Program)(t:TypeId)(len:Nat)(is:List Nat)(vs:List V)(h:Hp):R V:=match P.underlying t with
 |some (.slice el)=>(match oh P el with
  |some ti=>(match ti.zero with
   |some z=>(match nH ((Array.range (len*ti.size)).map (z.cells[· % z.cells.size]!)).toList,placed (fun i=>some (i*ti.size,ti.size)) (is.zip vs),Nat.blt 0 len,Nat.ble (len*ti.size) 16777216 with
    |some zs,some qs,true,true=>bK el zs len qs h
    |_,_,_,_=>.bad)
   |none=>.bad)
  |none=>.bad)
 |_=>.bad
def xA(P:Program)(t:TypeId)(x:V)(h:Hp):R V:=match P.underlying t with
 |some d=>(match Et d with
  |true=>(match P.info? t with|some ti=>lQ ti.size x h|none=>.bad)
  |false=>aW x h)
 |none=>.bad
def agx(P:Program)(op:BinOp)(t:TypeId)(lit:Bool)(x y:V)(h:Hp):R V:=match P.underlying t with
 |some d=>(match structOf d with
  |some fs=>qZ P op t fs x y h
  |none=>(match D5 P d with|some sz=>aO op (xk d sz lit) x y h|none=>.bad))
 |none=>.bad
def jK(P:Program)(s d:TypeId)(x:V)(h:Hp):R V:=match P.underlying s,P.underlying d with
 |some _,some (.int k)=>dh k x h
 |some .string,some .string=>oQ x h
 |some .string,some (.slice el)=>(match P.underlying el with|some (.int .u8)=>vg x h|_=>.bad)
 |some (.slice el),some .string=>(match P.underlying el with|some (.int .u8)=>dR x h|_=>.bad)
 |some (.slice _),some (.slice el)=>(match Nat.beq s d,P.underlying el with|true,some (.int .u8)=>Jt x h|_,_=>.bad)
 |some (.pointer t),some .unsafePointer=>(match P.info? t with|some ti=>(match Nat.beq ti.size 0 with|false=>Js x h|true=>.bad)|none=>.bad)
 |some .unsafePointer,some (.pointer u)=>(match P.info? u with|some _=>vT P u x h|none=>.bad)
 |_,_=>.bad
def NU(P:Program)(t:TypeId)(x:V)(h:Hp):R V:=match P.underlying t with
 |some (.interface _)=>.bad
 |some _=>Jy t x h
 |none=>.bad
def agw(fn:Fn)(m n:Nat)(vs:List V)(h:Hp):R V:=match Nat.beq vs.length (m+n) with
 |true=>Hz fn (vs.take m) (vs.drop m) h
 |false=>.bad
def Dq(P:Program)(t:TypeId)(l c:V)(h:Hp):R V:=match P.underlying t with
 |some (.slice el)=>(match oh P el,rP P el with|some ti,some z=>Ac el ti.bytes z l c h|_,_=>.bad)
 |_=>.bad
def NQ(P:Program)(t:TypeId)(x:V)(lo hi mx:Option V)(h:Hp):R V:=match P.underlying t with
 |some .string=>(match mx with|none=>eF x lo hi h|some _=>.bad)
 |some (.slice el)=>(match P.info? el with|some ti=>qK ti.size x lo hi mx h|none=>.bad)
 |some (.array n el)=>(match P.info? el with|some ti=>nD ti.size n x lo hi mx h|none=>.bad)
 |_=>.bad
def NV(P:Program)(t:TypeId)(n:Nat)(x:V)(h:Hp):R V:=match P.underlying t with
 |some (.struct fs)=>(match fs[n]? with
  |some f=>(match P.info? f.type with
   |some ti=>(match Nat.beq ti.size 0 with|false=>aN f.offset x h|true=>.bad)
   |none=>.bad)
  |none=>.bad)
 |_=>.bad
def tX(P:Program)(t:TypeId)(x i:V)(h:Hp):R V:=match P.underlying t with
 |some (.slice el)=>(match P.info? el with|some ti=>Ad ti.size x i h|none=>.bad)
 |some (.array n el)=>(match P.info? el with|some ti=>abE n ti.size x i h|none=>.bad)
 |_=>.bad
def NT(P:Program)(t:TypeId)(x i:V)(h:Hp):R V:=match P.underlying t with
 |some .string=>bU x i h
 |_=>.bad
def Jv(d:TypeDesc)(ok:Bool)(z m x:V)(h:Hp):R V:=match iJ d x with|true=>qL ok z m x h|false=>.bad
def qY(P:Program)(t:TypeId)(ok:Bool)(m x:V)(h:Hp):R V:=match P.underlying t with
 |some (.map kt et)=>(match P.underlying kt,P.info? et with
  |some d,some ie=>(match ie.zero with
   |some zc=>(match const zc with|some z=>Jv d ok z m x h|none=>.bad)
   |none=>.bad)
  |_,_=>.bad)
 |_=>.bad
def kH(P:Program)(t:TypeId)(m x y:V)(h:Hp):R V:=match P.underlying t with
 |some (.map kt _)=>(match P.underlying kt with
  |some d=>(match iJ d x with|true=>nX m x y h|false=>.bad)
  |none=>.bad)
 |_=>.bad
def NR(r:Option Operand)(vs:List V)(h:Hp):R V:=match r,vs with
 |none,[]=>Ju h
 |_,_=>.bad
def Ib(P:Program)(e:FuncId→Option Fun)(c:Call)(vs:List V)(h:Hp):R V:=match c.callee with
 | .value _=>(match vs with|f::args=>JA e f args h| []=>.bad)
 | .builtin b=>sJ P b c.argTypes.toList vs h
 | .invoke _ _=>.bad
def D8(x:Option Operand)(vs:List V)(k:Option V→List V→R V):R V:=match x with
 |none=>k none vs
 |some _=>(match vs with|v::r=>k (some v) r| []=>.bad)
def YD(P:Program)(t:TypeId)(n:Nat)(x:V)(h:Hp):R V:=match P.underlying t with
 |some (.struct fs)=>(match fs[n]? with
  |some f=>(match P.underlying f.type,P.info? f.type with
   |some d,some ti=>abA (Et d) ti.size f.offset x h
   |_,_=>.bad)
  |none=>.bad)
 |_=>.bad
theorem avV{t:TypeId}{d:TypeDesc}{ti:TypeInfo}(hd:P.underlying t=some d)(hti:P.info? t=some ti){off:Nat}{x:V}{a:Value}(hr:Rel G M h w)(hx:Rp M x a)(e:abA (Et d) ti.size off x h=.ok r h'):
  Good P G M h w (do part t (←asAgg a) off) r h':=by
 unfold abA at e
 split at e
 ·rename_i l
  obtain⟨xs,hl,hs,rfl⟩:=hx.agg
  split at e
  ·rename_i hag
   split at e
   ·rename_i v hv
    cases e
    rw [UW] at hv
    obtain⟨y,hy,hrp⟩:=hl.get hv
    refine .same hr (c:=y) ?_ hrp
    have h1:(isAgg t).run P w=.ok false w:=by rw [pW hd];cases d<;>first|rfl|(cases hag)
    simp [asAgg,part,h1,hy]
   ·cases e
  ·rename_i hag
   split at e
   ·rename_i vs hv
    cases e
    obtain⟨h2,rfl⟩:=rU _ hv
    rw [iT] at h2⊢
    have h1:(isAgg t).run P w=.ok true w:=by rw [pW hd];cases d<;>first|rfl|(cases hag)
    refine .same hr (c:=.agg ((xs.drop off).take ti.size).toArray) ?_ (uS ((hl.drop off).take ti.size) fun y hy=>hs y (List.mem_of_mem_drop (List.mem_of_mem_take hy)))
    simp [asAgg,part,h1,sizeOf,typeInfo,hti]
   ·cases e
 ·cases e
theorem ann{t:TypeId}{fs:Array Field}{n:Nat}{f:Field}(hd:P.underlying t=some (.struct fs))(hf:fs[n]?=some f){a:Value}(g:Good P G M h w (do part f.type (←asAgg a) f.offset) r h'):
  Good P G M h w (Instr.field t a n) r h':=by
 obtain⟨c,w',M',e,g1,g2,g3⟩:=g
 refine⟨c,w',M',?_,g1,g2,g3⟩
 rw [←e]
 simp [Instr.field,run_underlying hd,hf]
def dY(P:Program)(e:FuncId→Option Fun)(op:Op)(vs:List V)(h:Hp):R V:=
 match op with
 | .move _=>v1 vs fun x=>.ok x h
 | .assign _=>v1 vs fun x=>.ok x h
 | .pick _ _ _=>v3 vs fun c a b=>Hy c a b h
 | .alloc t=>v0 vs (match rP P t with|some z=>yE t z h|none=>.bad)
 | .box t _=>v1 vs fun x=>amN t x h
 | .build t ps=>NW P t (ps.toList.map (·.1)) vs h
 | .buildSlice t len ps=>(match Nat.beq len 0 with|true=>aFx P t vs h|false=>x9 P t len (ps.toList.map (·.1)) vs h)
 | .load t _=>v1 vs fun x=>xA P t x h
 | .store t _ _=>v2 vs fun x y=>(match P.info? t with|some ti=>cZ ti.size x y h|none=>.bad)
 | .nilCheck _=>v1 vs fun x=>aP x h
 | .binOp op t xo yo _=>v2 vs fun x y=>agx P op t (isC xo||isC yo) x y h
 | .unOp op _ _=>v1 vs fun x=>oUn op x h
 | .convert s d _=>v1 vs fun x=>jK P s d x h
 | .makeInterface t _=>v1 vs fun x=>NU P t x h
 | .makeFunc fn f c=>agw fn f.size c.size vs h
 | .makeSlice t _ _=>v2 vs fun l c=>Dq P t l c h
 | .slice t _ lo hi mx=>(match vs with
  |x::vs=>D8 lo vs fun lo vs=>D8 hi vs fun hi vs=>D8 mx vs fun mx _=>NQ P t x lo hi mx h
  | []=>.bad)
 | .fieldAddr t _ n=>v1 vs fun x=>NV P t n x h
 | .field t _ n=>v1 vs fun x=>YD P t n x h
 | .indexAddr t _ _=>v2 vs fun x i=>tX P t x i h
 | .index t _ _=>v2 vs fun x i=>NT P t x i h
 | .extract _ n=>v1 vs fun x=>bM n x h
 | .lookup t _ _ ok=>v2 vs fun m x=>qY P t ok m x h
 | .mapUpdate t _ _ _=>v3 vs fun m x y=>kH P t m x y h
 | .insert t _ _ _=>v3 vs fun m x y=>kH P t m x y h
 | .makeMap _ r=>NR r vs h
 | .call c=>Ib P e c vs h
 |_=>.bad
theorem jk{ρ:Operand→Value}{x:Operand}{v:V}{xs:Array Operand}(hx:xs= #[x])(hv:aX M [v] (xs.toList.map ρ)):Rp M v (ρ x):=by
 subst hx
 obtain⟨_,_,h,_,e⟩:=hv
 simp at e;obtain⟨rfl,_⟩:=e;exact h
theorem ops2{ρ:Operand→Value}{x y:Operand}{u v:V}{xs:Array Operand}(hx:xs= #[x,y])(hv:aX M [u,v] (xs.toList.map ρ)):Rp M u (ρ x)∧Rp M v (ρ y):=by
 subst hx
 obtain⟨_,_,h,⟨_,_,g,_,e'⟩,e⟩:=hv
 subst e'
 simp at e;obtain⟨rfl,rfl,_⟩:=e;exact⟨h,g⟩
theorem ops3{ρ:Operand→Value}{x y z:Operand}{u v t:V}{xs:Array Operand}(hx:xs= #[x,y,z])(hv:aX M [u,v,t] (xs.toList.map ρ)):Rp M u (ρ x)∧Rp M v (ρ y)∧Rp M t (ρ z):=by
 subst hx
 obtain⟨_,_,h,⟨_,_,g,⟨_,_,k,_,e''⟩,e'⟩,e⟩:=hv
 subst e'';subst e'
 simp at e;obtain⟨rfl,rfl,rfl,_⟩:=e;exact⟨h,g,k⟩
theorem asX{e:FuncId→Option Fun}(he:∀f F,e f=some F→aj P G f F){f:V}{args:List V}{cf:Value}{cargs:List Value}(hr:Rel G M h w)(hf:Rp M f cf)(ha:aX M args cargs)
  (e0:JA e f args h=.ok r h'):Opq P (Post G M h w r h') ((do let d←Deferred.ofValue cf cargs.toArray;invoke d.target d.args:Sem Next).run P w):=by
 unfold JA at e0
 split at e0
 ·rename_i fn a b
  obtain⟨g0,x,y,hg0,hx,hy,rfl⟩:=hf.func
  split at e0
  ·rename_i g
   obtain rfl:g0=.func g:=hg0
   split at e0
   ·rename_i F hF
    have:=he g F hF _ _ _ _ _ _ (x++(cargs++y)) e0 hr (aX.append hx (aX.append ha hy))
    simpa [Deferred.ofValue,invoke,Array.append_assoc] using this
   ·cases e0
  ·cases e0
 ·cases e0
theorem abw{d:TypeDesc}{sz:Nat}(h0:D5 P d=some sz):∀e,d=.pointer e→∃ti,P.info? e=some ti∧ti.size=sz:=by
 intro e he
 subst he
 simp only [D5] at h0
 split at h0
 ·rename_i ti hi
  cases h0
  exact⟨ti,hi,rfl⟩
 ·cases h0
theorem Opq.pure{c:Value}(hr:Rel G M h w)(hc:Rp M r c):Opq P (Post G M h w r h) ((pure (.value c):Sem Next).run P w):=⟨M,hc,hr,.refl hr⟩
theorem zip_fst{ρ:Operand→Value}(ps:List (Nat×Operand)){vs:List V}(hl:vs.length=ps.length):
  ((ps.map (·.1)).zip vs).map (·.1)=(ps.map fun p=>(p.1,ρ p.2)).map (·.1)∧((ps.map (·.1)).zip vs).map (·.2)=vs:=by
 constructor
 ·rw [List.map_fst_zip (by simp [hl])];simp
 ·rw [List.map_snd_zip (by simp [hl])]
theorem aX.cons_inv{v:V}{vs:List V}{l:List Value}(hv:aX M (v::vs) l):∃c cs,l=c::cs∧Rp M v c∧aX M vs cs:=by
 obtain⟨c,cs,h1,h2,e⟩:=hv;exact⟨c,cs,e,h1,h2⟩
theorem D7{ρ:Operand→Value}{x:Option Operand}{rest:List Value}{vs:List V}{k:Option V→List V→R V}(hv:aX M vs ((x.toArray.toList.map ρ)++rest))(e:D8 x vs k=.ok r h'):
  ∃u us,k u us=.ok r h'∧jf M u (x.map ρ)∧aX M us rest:=by
 cases x with
 |none=>exact⟨none,vs,e,trivial,by simpa using hv⟩
 |some y=>
  cases vs with
  |nil=>cases e
  |cons v vs=>
   obtain⟨c,cs,h1,h2,h3⟩:=hv.cons_inv
   simp at h1
   obtain⟨rfl,rfl⟩:=h1
   exact⟨some v,vs,e,h2,h3⟩
theorem UF(w:World)(t el:TypeId)(ti:TypeInfo)(hd:P.underlying t=some (.slice el))(hti:P.info? el=some ti):
  (Instr.buildSlice t 0 #[]).run P w=.ok (.slice (some ⟨w.heap.size,0,none⟩) 0 0) (w.alloc (.cells #[] el)):=by
 simp [Instr.buildSlice,run_underlying hd,sizeOf,typeInfo,hti,Instr.fill,newRow,show(Array.range 0)= #[] from rfl]
theorem TI{d:TypeDesc}{fs:Array Field}(h:structOf d=some fs):d=.struct fs:=by
 cases d<;>simp [structOf] at h
 rw [h]
theorem ayR{op:BinOp}{t:TypeId}{xo yo:Operand}{x y:V}{a b:Value}(hr:Rel G M h w)(hx:Rp M x a)(hy:Rp M y b)(e:agx P op t (isC xo||isC yo) x y h=.ok r h'):
  Good P G M h w (do eqGuard op t xo yo a b;binOp op t a b) r h':=by
 unfold agx at e
 split at e
 ·rename_i d hd
  split at e
  ·rename_i fs hfs
   rw [TI hfs] at hd
   exact aj7 hd hr hx hy e
  ·split at e
   ·rename_i sz hsz
    exact aFB hd (abw hsz) hr hx hy e
   ·cases e
 ·cases e
theorem agv{t:TypeId}{ok:Bool}{m x:V}{cm cx:Value}(hr:Rel G M h w)(hm:Rp M m cm)(hx:Rp M x cx)(e:qY P t ok m x h=.ok r h'):Good P G M h w (Instr.lookup t cm cx ok) r h':=by
 unfold qY at e
 split at e
 ·rename_i kt et ht
  split at e
  ·rename_i d ie hd hie
   split at e
   ·rename_i zc hzc
    split at e
    ·rename_i z hz
     unfold Jv at e
     split at e
     ·rename_i hf
      exact ajv ht hd hie hzc hz hf hr hm hx e
     ·cases e
    ·cases e
   ·cases e
  ·cases e
 ·cases e
theorem uH{t:TypeId}{m x y:V}{cm cx cy:Value}(hr:Rel G M h w)(hm:Rp M m cm)(hx:Rp M x cx)(hy:Rp M y cy)(e:kH P t m x y h=.ok r h'):
  ∃w',(Instr.mapUpdate t cm cx cy).run P w=.ok () w'∧r=V.undef∧Rel G M h' w'∧Ext M h w M h' w':=by
 unfold kH at e
 split at e
 ·rename_i kt et ht
  split at e
  ·rename_i d hd
   split at e
   ·rename_i hf
    exact JU ht hd hf hr hm hx hy e
   ·cases e
  ·cases e
 ·cases e
set_option maxHeartbeats 1000000 in
theorem mg{e:FuncId→Option Fun}(he:∀f F,e f=some F→aj P G f F){o:Oper}{a:Act}{vs:List V}(hv:aX M vs (o.op.operands.toList.map a.eval))(hr:Rel G M h w)
  (e0:dY P e o.op vs h=.ok r h'):Opq P (Post G M h w r h') ((execOp a.eval o).run P w):=by
 obtain⟨dst,op,type,pos,after,guard⟩:=o
 simp only at hv e0
 cases op<;>simp only [dY] at e0<;>try (cases e0;done)
 case move x=>
  obtain⟨x,rfl,e0⟩:=kD e0
  cases e0
  exact .pure hr (jk rfl hv)
 case assign x=>
  obtain⟨x,rfl,e0⟩:=kD e0
  cases e0
  exact .pure hr (jk rfl hv)
 case pick c x y=>
  obtain⟨c,x,y,rfl,e0⟩:=abg e0
  obtain⟨h1,h2,h3⟩:=ops3 rfl hv
  obtain⟨q,rfl,e1⟩:=Gg e0
  have hb:=h1.bool
  simp only [execOp,hb,Go.asBool]
  cases q<;>cases e1
  ·exact .pure hr h3
  ·exact .pure hr h2
 case alloc t=>
  obtain⟨rfl,e0⟩:=aIo e0
  split at e0
  ·rename_i z hz
   obtain⟨it,zv,h1,h2,h3⟩:=lX hz
   exact(as1 h1 h2 (h3 M).1 (h3 M).2 hr e0).opq
  ·cases e0
 case box t x=>
  obtain⟨x,rfl,e0⟩:=kD e0
  exact(aFA hr (jk rfl hv) e0).opq
 case load t x=>
  obtain⟨x,rfl,e0⟩:=kD e0
  unfold xA at e0
  split at e0
  ·rename_i d hd
   split at e0
   ·rename_i ha
    split at e0
    ·rename_i ti hti
     exact(am8 hd (by cases d<;>simp_all [Et]) hti hr (jk rfl hv) e0).opq
    ·cases e0
   ·rename_i ha
    exact(am9 hd (by cases d<;>simp_all [Et]) hr (jk rfl hv) e0).opq
  ·cases e0
 case store t x y=>
  obtain⟨x,y,rfl,e0⟩:=pU e0
  obtain⟨h1,h2⟩:=ops2 rfl hv
  split at e0
  ·rename_i ti hti
   obtain⟨w',g1,rfl,g2,g3⟩:=amz (P:=P) hti hr h1 h2 e0
   simp only [execOp,Sem.run_bind,g1,Result.andThen_ok]
   exact⟨M,gu M,g2,g3⟩
  ·cases e0
 case lookup t m x ok=>
  obtain⟨m,x,rfl,e0⟩:=pU e0
  obtain⟨h1,h2⟩:=ops2 rfl hv
  exact(agv hr h1 h2 e0).opq
 case mapUpdate t m x y=>
  obtain⟨m,x,y,rfl,e0⟩:=abg e0
  obtain⟨h1,h2,h3⟩:=ops3 rfl hv
  obtain⟨w',g1,rfl,g2,g3⟩:=uH (P:=P) hr h1 h2 h3 e0
  simp only [execOp,Sem.run_bind,g1,Result.andThen_ok]
  exact⟨M,gu M,g2,g3⟩
 case insert t m x y=>
  obtain⟨m,x,y,rfl,e0⟩:=abg e0
  obtain⟨h1,h2,h3⟩:=ops3 rfl hv
  obtain⟨w',g1,rfl,g2,g3⟩:=uH (P:=P) hr h1 h2 h3 e0
  simp only [execOp,Sem.run_bind,g1,Result.andThen_ok]
  exact⟨M,gu M,g2,g3⟩
 case makeMap t rs=>
  unfold NR at e0
  split at e0
  ·exact(abL hr e0).opq
  ·cases e0
 case nilCheck x=>
  obtain⟨x,rfl,e0⟩:=kD e0
  obtain⟨rfl,rfl,hh⟩:=TS (P:=P) (w:=w) (jk rfl hv) e0
  rw [hh a.eval _ _ rfl rfl]
  exact⟨M,jk rfl hv,hr,.refl hr⟩
 case binOp op t xo yo _=>
  obtain⟨x,y,rfl,e0⟩:=pU e0
  obtain⟨h1,h2⟩:=ops2 rfl hv
  exact(ayR hr h1 h2 e0).opq
 case unOp op _ x=>
  obtain⟨x,rfl,e0⟩:=kD e0
  exact(aIp hr (jk rfl hv) e0).opq
 case convert s d x=>
  obtain⟨x,rfl,e0⟩:=kD e0
  unfold jK at e0
  split at e0
  ·rename_i hs hd
   exact(agz hs hd hr (jk rfl hv) e0).opq
  ·rename_i hs hd
   exact(agy hs hd hr (jk rfl hv) e0).opq
  ·rename_i el hs hd
   split at e0
   ·rename_i he'
    exact(TJ hs hd he' hr (jk rfl hv) e0).opq
   ·cases e0
  ·rename_i el hs hd
   split at e0
   ·rename_i he'
    exact(Ud hs hd he' hr (jk rfl hv) e0).opq
   ·cases e0
  ·rename_i el el' hs hd
   split at e0
   ·rename_i hsd he'
    exact(am4 (Nat.eq_of_beq_eq_true hsd) hs hd he' hr (jk rfl hv) e0).opq
   ·cases e0
  ·rename_i t hs hd
   replace e0:(match P.info? t with|some ti=>(match Nat.beq ti.size 0 with|false=>Js x h|true=>.bad)|none=>.bad)=R.ok r h':=e0
   split at e0
   ·rename_i ti hti
    split at e0
    ·rename_i hz
     exact(aEp hs hd hti (Nat.ne_of_beq_eq_false hz) hr (jk rfl hv) e0).opq
    ·cases e0
   ·cases e0
  ·rename_i u hs hd
   replace e0:(match P.info? u with|some _=>vT P u x h|none=>.bad)=R.ok r h':=e0
   split at e0
   ·rename_i iu hiu
    exact(anl hs hd hiu hr (jk rfl hv) e0).opq
   ·cases e0
  ·cases e0
 case makeInterface t x=>
  obtain⟨x,rfl,e0⟩:=kD e0
  unfold NU at e0
  split at e0
  ·cases e0
  ·rename_i d hni hd
   exact(anh hd (fun ms hm=>hni ms (by rw [hm])) hr (jk rfl hv) e0).opq
  ·cases e0
 case makeFunc fn f c=>
  unfold agw at e0
  split at e0
  ·rename_i hl
   have hl':=Nat.eq_of_beq_eq_true hl
   have e1:(Op.makeFunc fn f c).operands.toList.map a.eval=f.toList.map a.eval++c.toList.map a.eval:=by simp [Op.operands]
   rw [e1] at hv
   have g1:=hv.take f.size
   have g2:=hv.drop f.size
   rw [List.take_left' (by simp)] at g1
   rw [List.drop_left' (by simp)] at g2
   have:=(ayh (P:=P) hr g1 g2 e0).opq
   have e2:∀z:Array Operand,(z.toList.map a.eval).toArray=z.map a.eval:=fun z=>by apply Array.ext';simp
   rw [e2,e2] at this
   exact this
  ·cases e0
 case makeSlice t l c=>
  obtain⟨x,y,rfl,e0⟩:=pU e0
  obtain⟨h1,h2⟩:=ops2 rfl hv
  unfold Dq at e0
  split at e0
  ·rename_i el hd
   split at e0
   ·rename_i ti z hti hz
    obtain⟨zv,E⟩:=kU hti
    obtain⟨it,zv',k1,k2,k3⟩:=lX hz
    rw [E.info] at k1;cases k1
    rw [E.zero] at k2;cases k2
    exact(JV hd E (k3 M).1 hr h1 h2 e0).opq
   ·cases e0
  ·cases e0
 case slice t x lo hi mx=>
  split at e0
  ·rename_i v vs
   have e1:(Op.slice t x lo hi mx).operands.toList.map a.eval=a.eval x::((lo.toArray.toList.map a.eval)++((hi.toArray.toList.map a.eval)++((mx.toArray.toList.map a.eval)++ []))):=by
    simp [Op.operands]
   rw [e1] at hv
   obtain⟨c,cs,q1,q2,q3⟩:=hv.cons_inv
   cases q1
   obtain⟨l1,vs1,e1,p1,r1⟩:=D7 q3 e0
   obtain⟨l2,vs2,e2,p2,r2⟩:=D7 r1 e1
   obtain⟨l3,vs3,e3,p3,r3⟩:=D7 r2 e2
   clear e0 e1 e2
   have e0:=e3
   clear e3
   unfold NQ at e0
   split at e0
   ·rename_i hd
    cases l3 with
    |some _=>cases e0
    |none=>
     cases mx with
     |some _=>exact p3.elim
     |none=>exact(TK hd hr q2 p1 p2 e0).opq
   ·rename_i el hd
    split at e0
    ·rename_i ti hti
     exact(amA hd hti hr q2 p1 p2 p3 e0).opq
    ·cases e0
   ·rename_i n el hd
    split at e0
    ·rename_i ti hti
     exact(TL hd hti hr q2 p1 p2 p3 e0).opq
    ·cases e0
   ·cases e0
  ·cases e0
 case fieldAddr t x n=>
  obtain⟨x,rfl,e0⟩:=kD e0
  unfold NV at e0
  split at e0
  ·rename_i fs hd
   split at e0
   ·rename_i f hf
    split at e0
    ·rename_i ti hti
     split at e0
     ·rename_i hz
      exact(KE hd hf hti (Nat.ne_of_beq_eq_false hz) hr (jk rfl hv) e0).opq
     ·cases e0
    ·cases e0
   ·cases e0
  ·cases e0
 case field t x n=>
  obtain⟨x,rfl,e0⟩:=kD e0
  unfold YD at e0
  split at e0
  ·rename_i fs hd
   split at e0
   ·rename_i f hf
    split at e0
    ·rename_i d ti hd2 hti
     exact(ann hd hf (avV hd2 hti hr (jk rfl hv) e0)).opq
    ·cases e0
   ·cases e0
  ·cases e0
 case indexAddr t x i=>
  obtain⟨x,y,rfl,e0⟩:=pU e0
  obtain⟨h1,h2⟩:=ops2 rfl hv
  unfold tX at e0
  split at e0
  ·rename_i el hd
   split at e0
   ·rename_i ti hti
    exact(ayb hd hti hr h1 h2 e0).opq
   ·cases e0
  ·rename_i n el hd
   split at e0
   ·rename_i ti hti
    exact(aye hd hti hr h1 h2 e0).opq
   ·cases e0
  ·cases e0
 case index t x i=>
  obtain⟨x,y,rfl,e0⟩:=pU e0
  obtain⟨h1,h2⟩:=ops2 rfl hv
  unfold NT at e0
  split at e0
  ·rename_i hd
   exact(ajR hd hr h1 h2 e0).opq
  ·cases e0
 case extract x n=>
  obtain⟨x,rfl,e0⟩:=kD e0
  exact(acB hr (jk rfl hv) e0).opq
 case build t ps=>
  have hvl:=hv.length
  have e1:(Op.build t ps).operands.toList.map a.eval=ps.toList.map fun p=>a.eval p.2:=by simp [Op.operands]
  rw [e1] at hv hvl
  have hl:vs.length=ps.toList.length:=by simpa using hvl.symm
  obtain⟨z1,z2⟩:=zip_fst (ρ:=a.eval) ps.toList hl
  have hys:(ps.map fun(i,x)=>(i,a.eval x)).toList=ps.toList.map fun p=>(p.1,a.eval p.2):=by simp
  have h1:((ps.toList.map (·.1)).zip vs).map (·.1)=(ps.map fun(i,x)=>(i,a.eval x)).toList.map (·.1):=by rw [hys];exact z1
  have h2:aX M (((ps.toList.map (·.1)).zip vs).map (·.2)) ((ps.map fun(i,x)=>(i,a.eval x)).toList.map (·.2)):=by
   rw [hys,z2,List.map_map];exact hv
  unfold NW at e0
  split at e0
  ·rename_i fs z hd hz
   obtain⟨it,zv,k1,k2,k3⟩:=lX hz
   split at e0
   ·rename_i pl hpl
    split at e0
    ·rename_i qs hq
     exact(N9 hd k1 k2 (.inr ⟨fs,pl,rfl,hpl,rfl⟩) (k3 M).1 (k3 M).2 hq h1 h2 hr e0).opq
    ·cases e0
   ·cases e0
  ·rename_i n el z hd hz
   obtain⟨it,zv,k1,k2,k3⟩:=lX hz
   split at e0
   ·rename_i ie hie
    split at e0
    ·rename_i qs hq
     exact(N9 hd k1 k2 (.inl ⟨n,el,ie,rfl,hie,rfl⟩) (k3 M).1 (k3 M).2 hq h1 h2 hr e0).opq
    ·cases e0
   ·cases e0
  ·cases e0
 case buildSlice t len ps=>
  have hvl:=hv.length
  have e1:(Op.buildSlice t len ps).operands.toList.map a.eval=ps.toList.map fun p=>a.eval p.2:=by simp [Op.operands]
  rw [e1] at hv hvl
  have hl:vs.length=ps.toList.length:=by simpa using hvl.symm
  obtain⟨z1,z2⟩:=zip_fst (ρ:=a.eval) ps.toList hl
  have hys:(ps.map fun(i,x)=>(i,a.eval x)).toList=ps.toList.map fun p=>(p.1,a.eval p.2):=by simp
  have h1:((ps.toList.map (·.1)).zip vs).map (·.1)=(ps.map fun(i,x)=>(i,a.eval x)).toList.map (·.1):=by rw [hys];exact z1
  have h2:aX M (((ps.toList.map (·.1)).zip vs).map (·.2)) ((ps.map fun(i,x)=>(i,a.eval x)).toList.map (·.2)):=by
   rw [hys,z2,List.map_map];exact hv
  split at e0
  ·rename_i hz
   have hz:=Nat.eq_of_beq_eq_true hz
   subst hz
   unfold aFx at e0
   split at e0
   ·have hps:ps= #[]:=by
     cases ps with
     |mk l=>cases l with
      |nil=>rfl
      |cons x l=>simp at hl
    subst hps
    split at e0
    ·rename_i el hd
     split at e0
     ·rename_i ti hti
      cases e0
      have:=hr.row (w':=w.alloc (.cells #[] el)) [] #[] el (0,0) rfl (by simp) (by simp) true (fun _=>rfl) rfl rfl rfl rfl
      have gd:Good P G M h w (Instr.buildSlice t 0 #[]) (.slice h.next 0 0 (.kn 0)) (h.new (.cells (.rw el true) [])):=⟨.slice (some ⟨w.heap.size,0,none⟩) 0 0,w.alloc (.cells #[] el),_,UF w t el ti hd hti,fB (o:=0) (n:=0) (k:=.kn 0) (m:=0) (M.bZ h.next ⟨w.heap.size,0,(#[]:Array Value).size⟩) ⟨rfl,Nat.le_refl 0⟩,this.1,this.2⟩
      have gq:=gd.opq
      rw [show(#[]:Array (Nat×Value))=(#[]:Array (Nat×Operand)).map (fun x=>(x.1,a.eval x.2)) from by simp] at gq
      exact gq
     ·cases e0
    ·cases e0
   ·cases e0
  unfold x9 at e0
  split at e0
  ·rename_i el hd
   split at e0
   ·rename_i ti hti
    obtain⟨zv,E⟩:=kU hti
    split at e0
    ·rename_i z hz
     rw [E.zero] at hz;cases hz
     split at e0
     ·rename_i zs qs hzs hq hp1 hp2
      exact(Hg hd E (by simpa [Nat.blt_eq] using hp1) (Nat.le_of_ble_eq_true hp2) (lH hzs M).1 hq h1 h2 hr e0).opq
     ·cases e0
    ·cases e0
   ·cases e0
  ·cases e0
 case call c=>
  obtain⟨callee,args,argTypes⟩:=c
  unfold Ib at e0
  cases callee with
  |invoke rc m=>cases e0
  |value f=>
   simp only at e0
   split at e0
   ·rename_i fv avs
    have e1:(Op.call ⟨.value f,args,argTypes⟩).operands.toList.map a.eval=a.eval f::args.toList.map a.eval:=by simp [Op.operands,Call.operands]
    rw [e1] at hv
    obtain⟨c,cs,q1,q2,q3⟩:=hv.cons_inv
    cases q1
    have:=asX he hr q2 q3 e0
    have e2:(args.toList.map a.eval).toArray=args.map a.eval:=by apply Array.ext';simp
    rw [e2] at this
    simpa [execOp,resolve] using this
   ·cases e0
  |builtin b=>
   simp only at e0
   have e1:(Op.call ⟨.builtin b,args,argTypes⟩).operands.toList.map a.eval=args.toList.map a.eval:=by simp [Op.operands,Call.operands]
   rw [e1] at hv
   have hargs:∀l:List Operand,args.toList=l→args=l.toArray:=fun l hl=>by apply Array.ext';simpa using hl
   have htys:∀l:List TypeId,argTypes.toList=l→argTypes=l.toArray:=fun l hl=>by apply Array.ext';simpa using hl
   unfold sJ at e0
   split at e0
   ·rename_i t x hts
    have htt:=htys _ hts
    subst htt
    obtain⟨c,cs,q1,q2,q3⟩:=hv.cons_inv
    have hcs:cs= []:=q3
    subst hcs
    have e2:args.map a.eval= #[c]:=by apply Array.ext';simpa using q1
    have fin:Good P G M h w (Builtin.len_ #[t] type #[c]) r h'→Opq P (Post G M h w r h') ((execOp a.eval ⟨dst,.call ⟨.builtin .len,args, #[t]⟩,type,pos,after,guard⟩).run P w):=by
     intro g
     have:=g.opq
     simpa [execOp,resolve,invoke,builtin,e2] using this
    split at e0
    ·rename_i n el hd
     exact fin (ajx hd hr e0)
    ·rename_i d hna hd
     exact fin (aFt hd hr q2 e0)
    ·cases e0
   ·rename_i t t2 s x hts
    have htt:=htys _ hts
    subst htt
    obtain⟨c,cs,q1,q2,q3⟩:=hv.cons_inv
    obtain⟨c2,cs2,p1,p2,p3⟩:=q3.cons_inv
    have hcs:cs2= []:=p3
    subst hcs
    subst p1
    have e2:args.map a.eval= #[c,c2]:=by apply Array.ext';simpa using q1
    have fin:Good P G M h w (Builtin.append_ #[t,t2] type #[c,c2]) r h'→Opq P (Post G M h w r h') ((execOp a.eval ⟨dst,.call ⟨.builtin .append,args, #[t,t2]⟩,type,pos,after,guard⟩).run P w):=by
     intro g
     have:=g.opq
     simpa [execOp,resolve,invoke,builtin,e2] using this
    split at e0
    ·rename_i el el2 hd hd2
     split at e0
     ·rename_i ti hti
      obtain⟨zv,E⟩:=kU hti
      exact fin (Gh hd hd2 (by simp) E hr q2 p2 e0)
     ·cases e0
    ·rename_i el hd hd2
     split at e0
     ·rename_i ti hti
      obtain⟨zv,E⟩:=kU hti
      exact fin (Gh hd hd2 (by simp) E hr q2 p2 e0)
     ·cases e0
    ·cases e0
   ·rename_i t x hts
    have htt:=htys _ hts
    subst htt
    obtain⟨c,cs,q1,q2,q3⟩:=hv.cons_inv
    have hcs:cs= []:=q3
    subst hcs
    have e2:args.map a.eval= #[c]:=by apply Array.ext';simpa using q1
    split at e0
    ·rename_i el hd
     have:=(aFy (P:=P) (ty:=type) hd hr q2 e0).opq
     simpa [execOp,resolve,invoke,builtin,e2] using this
    ·cases e0
   ·rename_i t t2 x y hts
    have htt:=htys _ hts
    subst htt
    obtain⟨c,cs,q1,q2,q3⟩:=hv.cons_inv
    obtain⟨c2,cs2,p1,p2,p3⟩:=q3.cons_inv
    have hcs:cs2= []:=p3
    subst hcs
    subst p1
    have e2:args.map a.eval= #[c,c2]:=by apply Array.ext';simpa using q1
    split at e0
    ·rename_i el hd
     split at e0
     ·rename_i ti hti
      have:=(ayS (P:=P) (t2:=t2) (ty:=type) hd hti hr q2 p2 e0).opq
      simpa [execOp,resolve,invoke,builtin,e2] using this
     ·cases e0
    ·cases e0
   ·rename_i x
    obtain⟨c,cs,q1,q2,q3⟩:=hv.cons_inv
    have hcs:cs= []:=q3
    subst hcs
    have e2:args.map a.eval= #[c]:=by apply Array.ext';simpa using q1
    have:=(IC (P:=P) (ts:=argTypes) (ty:=type) hr q2 e0).opq
    simpa [execOp,resolve,invoke,builtin,e2] using this
   ·rename_i pt it x y hts
    have htt:=htys _ hts
    subst htt
    obtain⟨c,cs,q1,q2,q3⟩:=hv.cons_inv
    obtain⟨c2,cs2,p1,p2,p3⟩:=q3.cons_inv
    have hcs:cs2= []:=p3
    subst hcs
    subst p1
    have e2:args.map a.eval= #[c,c2]:=by apply Array.ext';simpa using q1
    split at e0
    ·rename_i u hd
     split at e0
     ·rename_i hc1
      have:=(Ir (P:=P) (it:=it) (ty:=type) hd (Nat.eq_of_beq_eq_true hc1) hr q2 p2 e0).opq
      simpa [execOp,resolve,invoke,builtin,e2] using this
     ·cases e0
    ·cases e0
   ·rename_i x y
    obtain⟨c,cs,q1,q2,q3⟩:=hv.cons_inv
    obtain⟨c2,cs2,p1,p2,p3⟩:=q3.cons_inv
    have hcs:cs2= []:=p3
    subst hcs
    subst p1
    have e2:args.map a.eval= #[c,c2]:=by apply Array.ext';simpa using q1
    have:=(aEG (P:=P) (at_:=argTypes) (ty:=type) hr q2 p2 e0).opq
    simpa [execOp,resolve,invoke,builtin,e2] using this
   ·rename_i x y
    obtain⟨c,cs,q1,q2,q3⟩:=hv.cons_inv
    obtain⟨c2,cs2,p1,p2,p3⟩:=q3.cons_inv
    have hcs:cs2= []:=p3
    subst hcs
    subst p1
    have e2:args.map a.eval= #[c,c2]:=by apply Array.ext';simpa using q1
    have:=(aEH (P:=P) (at_:=argTypes) (ty:=type) hr q2 p2 e0).opq
    simpa [execOp,resolve,invoke,builtin,e2] using this
   ·rename_i t x hts
    have htt:=htys _ hts
    subst htt
    obtain⟨c,cs,q1,q2,q3⟩:=hv.cons_inv
    have hcs:cs= []:=q3
    subst hcs
    have e2:args.map a.eval= #[c]:=by apply Array.ext';simpa using q1
    split at e0
    ·rename_i el hd
     split at e0
     ·rename_i ti hti
      split at e0
      ·rename_i z hz
       split at e0
       ·rename_i zs hzs
        obtain⟨zv,E⟩:=kU hti
        have hzz:zv=z:=by have:=E.zero;rw [hz] at this;exact(Option.some.inj this).symm
        subst hzz
        have:=(asV (P:=P) (ty:=type) hd E (lH hzs M).1 hr q2 e0).opq
        simpa [execOp,resolve,invoke,builtin,e2] using this
       ·cases e0
      ·cases e0
     ·cases e0
    ·cases e0
   ·cases e0
end
end Go.Vm
namespace Go.Vm
noncomputable section
variable{P:Program}{G:Nat}{M:Mp}{h h':Hp}{w:World}{r:V}
abbrev F:=T V
abbrev Env:=List (Nat×V)
inductive Out where
 |nor (fr:F) (h:Hp)
 |ret (fr:F) (h:Hp)
 |ex (i:Nat) (fr:F) (h:Hp)
 |bad
def aZ(t:Nat)(l:Env):Option V:=
 List.rec (motive:=fun _=>Option V) none (fun p _ ih=>Bool.rec (motive:=fun _=>Option V) ih (some p.2) (Nat.beq t p.1)) l
def gt(p:Pos)(fr:F)(k:V→Out):Out:=match fr.get p with|some v=>k v|none=>.bad
def rQ(t:Nat)(env:Env)(fr:F)(k:V→Env→Out):Out:=match aZ t env with
 |some v=>k v env
 |none=>gt (Pos.of t) fr fun v=>k v ((t,v)::env)
def sG(x:Operand)(env:Env)(fr:F)(k:V→Env→Out):Out:=match x with
 | .tmp t=>rQ t env fr k
 | .const c=>(match const c with|some v=>k v env|none=>.bad)
 | .global g=>k (.ptr (Pos.of g) 0) env
 | .func f=>k (.func (.func f) .nil .nil) env
def zX:List Operand→Env→F→(List V→Env→Out)→Out
 | [],env,_,k=>k [] env
 |x::l,env,fr,k=>sG x env fr fun v env=>zX l env fr fun vs env=>k (v::vs) env
def bnd(m:Hp→R V)(h:Hp)(k:V→Hp→Out):Out:=match m h with| .ok v h=>k v h| .bad=>.bad
def abT(keep:Nat→Bool)(d:Nat)(v:V)(fr:F)(k:F→Out):Out:=match keep d with
 |true=>k (fr.set (some v) (Pos.of d))
 |false=>k fr
def nR(keep:Nat→Bool)(d:Option Nat)(v:V)(env:Env)(fr:F)(k:Env→F→Out):Out:=match d with
 |none=>k env fr
 |some d=>abT keep d v fr fun fr=>k ((d,v)::env) fr
def opK(P:Program)(keep:Nat→Bool)(e:FuncId→Option Fun)(o:Oper)(env:Env)(fr:F)(h:Hp)(k:Env→F→Hp→Out):Out:=
 zX o.op.operands.toList env fr fun vs env=>bnd (dY P e o.op vs) h fun v h=>nR keep o.dst v env fr fun env fr=>k env fr h
def J4(v:V)(b:Bool)(yes no:Out):Out:=match v with
 | .bool c=>(match b,c with|true,true=>yes|false,false=>yes|_,_=>no)
 | .tuple _=>no
 |_=>.bad
def jV(P:Program)(keep:Nat→Bool)(e:FuncId→Option Fun)(ops:Array Oper):List Oper→Env→F→Hp→Out
 | [],_,fr,h=>.nor fr h
 |o::l,env,fr,h=>(match o.guard with
  |none=>opK P keep e o env fr h (jV P keep e ops l)
  |some (j,b)=>(match (ops[j]?).bind (·.dst) with
   |none=>.bad
   |some d=>rQ d env fr fun v env=>J4 v b (opK P keep e o env fr h (jV P keep e ops l)) (nR keep o.dst V.undef env fr fun env fr=>jV P keep e ops l env fr h)))
def aC(a b:F→Hp→Out)(fr:F)(h:Hp):Out:=match a fr h with
 | .nor fr h=>b fr h
 | .ret fr h=>.ret fr h
 | .ex i fr h=>.ex i fr h
 | .bad=>.bad
def asU(c:Operand)(a b:F→Hp→Out)(fr:F)(h:Hp):Out:=sG c [] fr fun v _=>match v with
 | .bool t=>(match t with|true=>a fr h|false=>b fr h)
 |_=>.bad
def dU(id:Nat)(b:F→Hp→Out)(fr:F)(h:Hp):Out:=match b fr h with
 | .nor fr h=>.nor fr h
 | .ret fr h=>.ret fr h
 | .ex i fr h=>(match Nat.beq i id with|true=>.nor fr h|false=>.ex i fr h)
 | .bad=>.bad
def eU(b:F→Hp→Out)(n:Nat):F→Hp→Out:=
 Nat.rec (motive:=fun _=>F→Hp→Out) (fun _ _=>.bad) (fun _ ih fr h=>match b fr h with
  | .nor fr h=>ih fr h
  | .ret fr h=>.ret fr h
  | .ex i fr h=>.ex i fr h
  | .bad=>.bad) n
def lW(keep:Nat→Bool)(M:Mp)(fr:F)(a:Act):Prop:=∀t v,fr.get (Pos.of t)=some v→keep t=true∧Rp M v (a.tmps.getD t undef)
def iH(M:Mp)(env:Env)(a:Act):Prop:=∀t v,aZ t env=some v→Rp M v (a.tmps.getD t undef)
theorem lW.mono{keep:Nat→Bool}{M N:Mp}(hle:M.le N){fr:F}{a:Act}(hf:lW keep M fr a):lW keep N fr a:=fun t v hv=>⟨(hf t v hv).1,(hf t v hv).2.mono hle⟩
theorem iH.mono{M N:Mp}(hle:M.le N){env:Env}{a:Act}(he:iH M env a):iH N env a:=fun t v hv=>(he t v hv).mono hle
theorem iH.nil(M:Mp)(a:Act):iH M [] a:=fun t v hv=>by cases hv
theorem eX(t u:Nat)(v:V)(env:Env):aZ t ((u,v)::env)=if t=u then some v else aZ t env:=by
 show Bool.rec (motive:=fun _=>Option V) (aZ t env) (some v) (Nat.beq t u)=_
 cases hb:Nat.beq t u with
 |true=>rw [if_pos (Nat.eq_of_beq_eq_true hb)]
 |false=>rw [if_neg (Nat.ne_of_beq_eq_false hb)]
theorem iH.cons{env:Env}{a:Act}(he:iH M env a){t:Nat}{v:V}(hv:Rp M v (a.tmps.getD t undef)):iH M ((t,v)::env) a:=fun u x hx=>by
 rw [eX] at hx
 split at hx
 ·rename_i h;subst h;cases hx;exact hv
 ·exact he u x hx
theorem mG{a:Act}{d:Nat}{c:Value}{t:Nat}(hd:d<a.tmps.size):(a.put (some d) c).tmps.getD t undef=if t=d then c else a.tmps.getD t undef:=by
 simp only [Act.put,Array.getD_eq_getD_getElem?]
 by_cases e:t=d
 ·subst e;rw [if_pos rfl,Array.getElem?_setIfInBounds_self_of_lt hd];rfl
 ·rw [if_neg e,Array.getElem?_setIfInBounds_ne (Ne.symm e)]
structure At (keep:Nat→Bool) (G N:Nat) (Df:List Deferred) (M:Mp) (fr:F) (h:Hp) (a:Act) (w:World):Prop where
 rel:Rel G M h w
 fr:lW keep M fr a
 size:a.tmps.size=N
 plain:a.defers=Df
def eP(keep:Nat→Bool)(G N:Nat)(Df:List Deferred)(M:Mp)(h:Hp)(w:World):Out→Exit→Act→World→Prop
 | .nor fr h',.normal,a,w'=>∃M',At keep G N Df M' fr h' a w'∧Ext M h w M' h' w'
 | .ret fr h',.ret,a,w'=>∃M',At keep G N Df M' fr h' a w'∧Ext M h w M' h' w'
 | .ex i fr h',.exit j,a,w'=>j=i∧∃M',At keep G N Df M' fr h' a w'∧Ext M h w M' h' w'
 |_,_,_,_=>False
theorem eP.trans{keep:Nat→Bool}{N:Nat}{Df:List Deferred}{M':Mp}{w':World}(x:Ext M h w M' h' w'){o:Out}{e:Exit}{a:Act}{v:World}(q:eP keep G N Df M' h' w' o e a v):eP keep G N Df M h w o e a v:=by
 cases o<;>cases e<;>simp only [eP] at q⊢
 ·obtain⟨M2,p,y⟩:=q;exact⟨M2,p,x.trans y⟩
 ·obtain⟨M2,p,y⟩:=q;exact⟨M2,p,x.trans y⟩
 ·obtain⟨rfl,M2,p,y⟩:=q;exact⟨rfl,M2,p,x.trans y⟩
def gX(ro:Option Nat):Fence:={Fence.wide with round:=ro}
theorem TB{ro:Option Nat}{n:Nat}{P:Program}{f:FuncId}{args:Array Value}{w:World}{R:Ending→World→Prop}:CallsIn (gX ro) n P f args w R↔Calls P f args w R:=
 (show CallsIn (gX ro) n P f args w R↔CallsIn Fence.wide n P f args w R from by cases ro<;>exact Iff.rfl).trans callsIn_wide
theorem amv{n:Nat}{P:Program}{c:Code}{Q:Exit→Act→World→Prop}{a:Act}{w:World}:c.wpIn (gX none) n P Q a w↔c.wp P Q a w:=wpIn_wide (n:=n)
theorem TA{ro:Option Nat}{P:Program}{m m':Machine}:StepsIn (Machine.fenced P (gX ro)) P m m'↔Steps P m m':=
 (show StepsIn (Machine.fenced P (gX ro)) P m m'↔StepsIn (Machine.fenced P Fence.wide) P m m' from by cases ro<;>exact Iff.rfl).trans stepsIn_wide
def bG(P:Program)(keep:Nat→Bool)(G N:Nat)(c:Code)(D:F→Hp→Out):Prop:=
 ∀(ro:Option Nat) (n:Nat) (Df:List Deferred) fr h M a w,D fr h≠ .bad→At keep G N Df M fr h a w→c.wpIn (gX ro) n P (eP keep G N Df M h w (D fr h)) a w
theorem bG.wp{P:Program}{keep:Nat→Bool}{G N:Nat}{c:Code}{D:F→Hp→Out}(hc:bG P keep G N c D)(Df:List Deferred)(fr:F)(h:Hp)(M:Mp)(a:Act)(w:World)(hne:D fr h≠ .bad)(at_:At keep G N Df M fr h a w):c.wp P (eP keep G N Df M h w (D fr h)) a w:=
 (amv (n:=0)).1 (hc none 0 Df fr h M a w hne at_)
theorem eP.abI{keep:Nat→Bool}{G N:Nat}{Df:List Deferred}{M:Mp}{h:Hp}{w:World}{out:Out}:¬LetsOut (eP keep G N Df M h w out):=fun⟨a,w',q⟩=>by
 cases out<;>exact q
theorem UB{keep:Nat→Bool}{t:Nat}{env:Env}{fr:F}{a:Act}{k:V→Env→Out}{out:Out}(hb:out≠ .bad)(hf:lW keep M fr a)(he:iH M env a)(e:rQ t env fr k=out):
  ∃v env',k v env'=out∧Rp M v (a.tmps.getD t undef)∧iH M env' a:=by
 unfold rQ at e
 split at e
 ·rename_i v hv
  exact⟨v,env,e,he t v hv,he⟩
 ·unfold gt at e
  split at e
  ·rename_i v hv
   have:=(hf t v hv).2
   exact⟨v,_,e,this,he.cons this⟩
  ·exact absurd e.symm hb
theorem D9{keep:Nat→Bool}{N:Nat}{Df:List Deferred}{x:Operand}{env:Env}{fr:F}{a:Act}{k:V→Env→Out}{out:Out}(hb:out≠ .bad)(at_:At keep G N Df M fr h a w)(hG:∀g,x=.global g→g<G)(he:iH M env a)(e:sG x env fr k=out):
  ∃v env',k v env'=out∧Rp M v (a.eval x)∧iH M env' a:=by
 cases x with
 |tmp t=>exact UB hb at_.fr he e
 |const c=>
  simp only [sG] at e
  split at e
  ·rename_i v hv
   exact⟨v,env,e,o8 hv M,he⟩
  ·exact absurd e.symm hb
 |global g=>
  obtain⟨n,hg⟩:=at_.rel.gl g (hG g rfl)
  refine⟨_,env,e,?_,he⟩
  have:=jO hg 0
  exact this
 |func f=>exact⟨_,env,e,⟨rfl,.func f,[],[],rfl,⟨rfl,rfl⟩,rfl,rfl,rfl⟩,he⟩
theorem Ji{keep:Nat→Bool}{N:Nat}{Df:List Deferred}{fr:F}{a:Act}{out:Out}(hb:out≠ .bad)(at_:At keep G N Df M fr h a w):∀{l:List Operand} {env:Env} {k:List V→Env→Out},(∀x∈l,∀g,x=.global g→g<G)→iH M env a→zX l env fr k=out→
  ∃vs env',k vs env'=out∧aX M vs (l.map a.eval)∧iH M env' a
 | [],env,k,_,he,e=>⟨[],env,e,rfl,he⟩
 |x::l,env,k,hG,he,e=>by
  obtain⟨v,env',e1,hv,he1⟩:=D9 hb at_ (hG x (by simp)) he e
  obtain⟨vs,env2,e2,hvs,he2⟩:=Ji hb at_ (fun y hy=>hG y (by simp [hy])) he1 e1
  exact⟨v::vs,env2,e2,⟨_,_,hv,hvs,rfl⟩,he2⟩
def avZ:Op→Bool
 | .defer _=>false
 |_=>true
def iM(G N:Nat)(o:Oper):Bool:=
 (match o.dst with|some d=>Nat.blt d N|none=>true)&&((o.op.operands.toList.all fun x=>match x with| .global g=>Nat.blt g G|_=>true)&&avZ o.op)
def codeOk(G N:Nat):Code→Bool
 | .region _ ops _=>ops.toList.all (iM G N)
 | .seq a b=>codeOk G N a&&codeOk G N b
 | .cond c a b=>(match c with| .global g=>Nat.blt g G|_=>true)&&(codeOk G N a&&codeOk G N b)
 | .block _ b| .loop b| .scope b=>codeOk G N b
 |_=>true
theorem Ej{keep:Nat→Bool}{N:Nat}{Df:List Deferred}{d:Option Nat}{v:V}{env:Env}{fr:F}{k:Env→F→Out}{out:Out}{a:Act}{c:Value}(at_:At keep G N Df M fr h a w)(he:iH M env a)(hd:∀x,d=some x→x<N)(hv:Rp M v c)(e:nR keep d v env fr k=out):
  ∃env' fr',k env' fr'=out∧At keep G N Df M fr' h (a.put d c) w∧iH M env' (a.put d c):=by
 cases d with
 |none=>exact⟨env,fr,e,at_,he⟩
 |some d=>
  have hlt:d<a.tmps.size:=by rw [at_.size];exact hd d rfl
  have hp:(a.put (some d) c).defers=Df:=at_.plain
  have hs:(a.put (some d) c).tmps.size=N:=by simp [Act.put,at_.size]
  have henv:iH M ((d,v)::env) (a.put (some d) c):=fun t x hx=>by
   rw [mG hlt]
   rw [eX] at hx
   split at hx
   ·rename_i ht;cases hx;rw [if_pos ht];exact hv
   ·rename_i ht;rw [if_neg ht];exact he t x hx
  simp only [nR,abT] at e
  split at e
  ·rename_i hk
   refine⟨_,_,e,⟨at_.rel,fun t x hx=>?_,hs,hp⟩,henv⟩
   rw [mG hlt]
   by_cases ht:t=d
   ·subst ht
    rw [T.gU] at hx;cases hx
    exact⟨hk,by rw [if_pos rfl];exact hv⟩
   ·have hne:Pos.of t≠Pos.of d:=fun e=>ht (Pos.ve e)
    rw [T.iO _ hne] at hx
    rw [if_neg ht]
    exact at_.fr t x hx
  ·rename_i hk
   refine⟨_,_,e,⟨at_.rel,fun t x hx=>?_,hs,hp⟩,henv⟩
   obtain⟨h1,h2⟩:=at_.fr t x hx
   have ht:t≠d:=fun e=>by subst e;rw [h1] at hk;cases hk
   rw [mG hlt,if_neg ht]
   exact⟨h1,h2⟩
theorem nV{N:Nat}{o:Oper}(h:iM G N o=true):∀x,o.dst=some x→x<N:=by
 intro x hx
 simp only [iM,hx,Bool.and_eq_true] at h
 simpa [Nat.blt_eq] using h.1
theorem xY{N:Nat}{o:Oper}(h:iM G N o=true):∀x∈o.op.operands.toList,∀g,x=.global g→g<G:=by
 intro x hx g hg
 simp only [iM,Bool.and_eq_true,List.all_eq_true] at h
 have:=h.2.1 x hx
 subst hg
 simpa [Nat.blt_eq] using this
theorem kX{o:Oper}{a:Act}{K:Act→World→Prop}{Q:Exit→Act→World→Prop}{post:Value→World→Prop}(hq:Opq P post ((execOp a.eval o).run P w))(hk:∀c w',post c w'→K (a.put o.dst c) w'):o.wp P a w K Q:=by
 unfold Oper.wp
 revert hq
 generalize (execOp a.eval o).run P w=res
 intro hq
 cases res with
 |ok n w'=>
  cases n<;>simp only [Opq] at hq<;>simp only [Oper.upon]
  ·exact hk _ _ hq
  ·exact hk _ _ hq
  ·exact hq.mono fun e w'' ⟨c,he,hp⟩=>by subst he;exact hk _ _ hp
 |halt x w'=>exact hq.elim
theorem zY{keep:Nat→Bool}{N:Nat}{Df:List Deferred}{e:FuncId→Option Fun}(hE:∀f F,e f=some F→aj P G f F){o:Oper}(ho:iM G N o=true){env:Env}{fr:F}{a:Act}{k:Env→F→Hp→Out}{out:Out}(hb:out≠ .bad)(at_:At keep G N Df M fr h a w)(he:iH M env a)
  (e0:opK P keep e o env fr h k=out) {K:Act→World→Prop} {Q:Exit→Act→World→Prop}
  (hK:∀env' fr' h' a' w' M',k env' fr' h'=out→At keep G N Df M' fr' h' a' w'→iH M' env' a'→Ext M h w M' h' w'→K a' w'):o.wp P a w K Q:=by
 unfold opK at e0
 obtain⟨vs,env1,e1,hvs,he1⟩:=Ji hb at_ (xY ho) he e0
 unfold bnd at e1
 split at e1
 ·rename_i v h1 hop
  refine kX (mg hE hvs at_.rel hop) ?_
  rintro c w' ⟨M',hv,hr',hx⟩
  have at':At keep G N Df M' fr h1 a w':=⟨hr',at_.fr.mono hx.le,at_.size,at_.plain⟩
  obtain⟨env2,fr2,e2,at2,he2⟩:=Ej at' (he1.mono hx.le) (nV ho) hv e1
  exact hK env2 fr2 h1 _ _ M' e2 at2 he2 hx
 ·exact absurd e1.symm hb
theorem avO{keep:Nat→Bool}{N:Nat}{Df:List Deferred}{e:FuncId→Option Fun}(hE:∀f F,e f=some F→aj P G f F){ops:Array Oper}(hops:∀o∈ops.toList,iM G N o=true){out:Out}(hb:out≠ .bad):
  ∀(l:List Nat) (env:Env) (fr:F) (h:Hp) (M:Mp) (a:Act) (w:World),(∀i∈l,i<ops.size)→At keep G N Df M fr h a w→iH M env a→jV P keep e ops (l.filterMap (ops[·]?)) env fr h=out→
   wpOps P ops (eP keep G N Df M h w out) l a w:=by
 intro l
 induction l with
 |nil=>
  intro env fr h M a w _ at_ he e0
  simp only [List.filterMap_nil,jV] at e0
  subst e0
  exact⟨M,at_,.refl at_.rel⟩
 |cons i l ih=>
  intro env fr h M a w hl at_ he e0
  have hi:i<ops.size:=hl i (by simp)
  have ho:ops[i]?=some ops[i]:=Array.getElem?_eq_getElem hi
  rw [wpOps_cons]
  unfold wpOp
  simp only [ho]
  rw [List.filterMap_cons_some ho] at e0
  have hok:=hops ops[i] (by simp)
  have next:∀env' fr' h' a' w' M',jV P keep e ops (l.filterMap (ops[·]?)) env' fr' h'=out→At keep G N Df M' fr' h' a' w'→iH M' env' a'→Ext M h w M' h' w'→wpOps P ops (eP keep G N Df M h w out) l a' w':=by
   intro env' fr' h' a' w' M' e1 at1 he1 hx
   have:=ih env' fr' h' M' a' w' (fun j hj=>hl j (by simp [hj])) at1 he1 e1
   have mono:∀(l:List Nat) (a:Act) (w1:World) (Q Q':Exit→Act→World→Prop),(∀e a w,Q e a w→Q' e a w)→wpOps P ops Q l a w1→wpOps P ops Q' l a w1:=by
    intro l
    induction l with
    |nil=>intro a w1 Q Q' hq hw;exact hq _ _ _ hw
    |cons j l ihl=>
     intro a w1 Q Q' hq hw
     simp only [wpOps] at hw⊢
     split
     ·rename_i hn;simp only [hn] at hw;exact ihl _ _ _ _ hq hw
     ·rename_i o hn
      simp only [hn] at hw
      split
      ·rename_i hwn
       simp only [hwn,if_true] at hw
       rcases hw with hw|⟨h1,a2,w2,h2⟩
       ·refine .inl ?_
        unfold Oper.wp at hw⊢
        revert hw
        generalize (execOp a.eval o).run P w1=res
        intro hw
        cases res with
        |ok n w'=>
         cases n<;>simp only [Oper.upon] at hw⊢<;>first
          |exact ihl _ _ _ _ hq hw
          |exact Calls.mono hw (fun e w'' he=>by
            cases e<;>first
             |exact ihl _ _ _ _ hq he
             |exact hq _ _ _ he
             |(obtain⟨a3,w3,h3⟩:=he;exact⟨a3,w3,hq _ _ _ h3⟩))
          |exact Rows.mono hw (fun _ _ he=>ihl _ _ _ _ hq he)
        |halt x w'=>cases x<;>simp only [Oper.upon] at hw⊢<;>first|exact hq _ _ _ hw|exact hw
       ·exact .inr ⟨h1,a2,w2,hq _ _ _ h2⟩
      ·rename_i hwn
       simp only [hwn] at hw
       exact ihl _ _ _ _ hq hw
   exact mono _ _ _ _ _ (fun e a v q=>eP.trans hx q) this
  unfold jV at e0
  split at e0
  ·rename_i hg
   have hw:Region.wanted ops[i] (yielded ops a.tmps)=true:=by simp [Region.wanted,hg]
   simp only [hw,if_true]
   exact .inl (zY hE hok hb at_ he e0 next)
  ·rename_i j b hg
   split at e0
   ·exact absurd e0.symm hb
   ·rename_i d hd
    obtain⟨v,env1,e1,hv,he1⟩:=UB hb at_.fr he e0
    unfold J4 at e1
    split at e1
    ·rename_i c
     have hc:=hv.bool
     have hy:yielded ops a.tmps j=some c:=by
      unfold yielded
      rw [hd]
      simp only [Option.bind_some]
      rw [Array.getD_eq_getD_getElem?] at hc
      cases hq:a.tmps[d]? with
      |none=>rw [hq] at hc;cases hc
      |some z=>rw [hq] at hc;simp at hc;subst hc;rfl
     have hw:Region.wanted ops[i] (yielded ops a.tmps)=(c==b):=by
      simp only [Region.wanted,hg,hy]
      cases c<;>cases b<;>rfl
     split at e1
     ·simp only [hw,beq_self_eq_true,if_true]
      exact .inl (zY hE hok hb at_ he1 e1 next)
     ·simp only [hw,beq_self_eq_true,if_true]
      exact .inl (zY hE hok hb at_ he1 e1 next)
     ·rename_i hn1 hn2
      have hcb:(c==b)=false:=by
       cases c<;>cases b<;>first|rfl|exact absurd rfl (hn1 rfl)|exact absurd rfl (hn2 rfl)
      simp only [hw,hcb,Bool.false_eq_true,if_false]
      obtain⟨env2,fr2,e2,at2,he2⟩:=Ej at_ he1 (nV hok) (gu M) e1
      exact next env2 fr2 h _ _ M e2 at2 he2 (.refl at_.rel)
    ·obtain⟨xs,_,hc⟩:=hv.tuple
     have hy:yielded ops a.tmps j=none:=by
      unfold yielded
      rw [hd]
      simp only [Option.bind_some]
      rw [Array.getD_eq_getD_getElem?] at hc
      cases hq:a.tmps[d]? with
      |none=>rfl
      |some z=>rw [hq] at hc;simp at hc;subst hc;rfl
     have hw:Region.wanted ops[i] (yielded ops a.tmps)=false:=by
      simp only [Region.wanted,hg,hy]
      cases b<;>rfl
     simp only [hw,Bool.false_eq_true,if_false]
     obtain⟨env2,fr2,e2,at2,he2⟩:=Ej at_ he1 (nV hok) (gu M) e1
     exact next env2 fr2 h _ _ M e2 at2 he2 (.refl at_.rel)
    ·exact absurd e1.symm hb
theorem qH{N:Nat}{o:Oper}(h:iM G N o=true):∀c,o.op≠ .defer c:=by
 intro c hc
 simp only [iM,Bool.and_eq_true] at h
 have:=h.2.2
 rw [hc] at this
 cases this
theorem aED{ro:Option Nat}{n:Nat}{o:Oper}{K K':Act→World→Prop}{Q Q':Exit→Act→World→Prop}(hk:∀a w,K a w→K' a w)(hq:∀e a w,Q e a w→Q' e a w)(hd:∀c,o.op≠ .defer c){a:Act}{w:World}
  (h:o.wp P a w K Q):o.wpIn (gX ro) n P a w K' Q':=by
 refine⟨fun _ _=>trivial,?_⟩
 rw [Oper.semAt_eq _ _ _ hd]
 unfold Oper.wp at h
 revert h
 generalize (execOp a.eval o).run P w=res
 intro h
 cases res with
 |ok nx w'=>
  cases nx<;>simp only [Oper.upon,Oper.uponIn] at h⊢
  case value=>exact hk _ _ h
  case skip=>exact hk _ _ h
  case defer=>exact hk _ _ h
  case enter=>
   refine⟨fun hx=>by simp [gX,Fence.wide] at hx,TB.2 (Calls.mono h ?_)⟩
   intro e w2 he
   cases e
   ·exact hk _ _ he
   ·exact hq _ _ _ he
   ·obtain⟨a3,w3,h3⟩:=he
    exact⟨a3,w3,hq _ _ _ h3⟩
  case row=>
   refine⟨fun hx=>by simp [gX,Fence.wide] at hx,fun c cs _=>?_⟩
   obtain⟨v,w2,r2,s2⟩:=h c cs
   exact⟨v,w2,hk _ _ r2,TA.2 s2⟩
 |halt x w'=>cases x<;>simp only [Oper.upon,Oper.uponIn] at h⊢<;>first|exact hq _ _ _ h|exact h
theorem auI{ro:Option Nat}{n:Nat}{ops:Array Oper}{Q Q':Exit→Act→World→Prop}(hq:∀e a w,Q e a w→Q' e a w)(hl:¬LetsOut Q)(hd:∀o∈ops.toList,∀c,o.op≠ .defer c):
  ∀(l:List Nat) (a:Act) (w:World),wpOps P ops Q l a w→wpOpsIn (gX ro) n P ops Q' l a w:=by
 intro l
 induction l with
 |nil=>intro a w h;exact hq _ _ _ h
 |cons i rest ih=>
  intro a w h
  simp only [wpOps] at h
  simp only [wpOpsIn]
  cases ho:ops[i]? with
  |none=>rw [ho] at h;exact ih a w h
  |some o=>
   rw [ho] at h
   simp only [] at h⊢
   have hm:o∈ops.toList:=by have:=Array.mem_of_getElem? ho;simpa using this
   split
   ·rename_i hw
    rw [if_pos hw] at h
    rcases h with h|⟨_,h⟩
    ·exact aED ih hq (hd o hm) h
    ·exact absurd h hl
   ·rename_i hw
    rw [if_neg hw] at h
    exact⟨fun _ _=>trivial,ih _ _ h⟩
theorem zS{ro:Option Nat}{n id:Nat}{ops:Array Oper}{Q:Exit→Act→World→Prop}{a:Act}{w:World}(hm:P.follows .mixedOrders=true)(hq:¬LetsOut Q)(hd:∀o∈ops.toList,∀c,o.op≠ .defer c)
  (h:wpAny P .any ops Q ops.size (Array.replicate ops.size false) a {w with drawn:=w.drawn+1}):(Code.region id ops true).wpIn (gX ro) n P Q a w:=
 wpIn_region_draw fun t=>auI (fun _ _ _ h=>h) hq hd _ _ _ (by
  simp only [Region.schedule,hm,Bool.true_or,if_true]
  exact wpAny_sound ops.size t _ a _ h)
end
end Go.Vm
namespace Go.Vm
noncomputable section
variable{P:Program}{G:Nat}{M:Mp}{h h':Hp}{w:World}{r:V}{keep:Nat→Bool}{N:Nat}{Df:List Deferred}{e:FuncId→Option Fun}
theorem bG.seq{c d:Code}{D E:F→Hp→Out}(hc:bG P keep G N c D)(hd:bG P keep G N d E):bG P keep G N (.seq c d) (aC D E):=by
 intro ro n Df fr h M a w hne at_
 refine wpIn_seq ?_
 unfold aC at hne⊢
 cases e1:D fr h with
 |bad=>rw [e1] at hne;exact absurd rfl hne
 |nor fr1 h1=>
  rw [e1] at hne
  refine wpIn_mono (hc _ _ _ fr h M a w (by rw [e1];simp) at_) ?_
  intro x a' w' q
  rw [e1] at q
  cases x<;>simp only [eP] at q
  obtain⟨M',at',hx⟩:=q
  exact wpIn_mono (hd _ _ _ fr1 h1 M' a' w' hne at') fun x a w q=>eP.trans hx q
 |ret fr1 h1=>
  refine wpIn_mono (hc _ _ _ fr h M a w (by rw [e1];simp) at_) ?_
  intro x a' w' q
  rw [e1] at q
  cases x<;>simp only [eP] at q
  exact q
 |ex i fr1 h1=>
  refine wpIn_mono (hc _ _ _ fr h M a w (by rw [e1];simp) at_) ?_
  intro x a' w' q
  rw [e1] at q
  cases x<;>simp only [eP] at q
  exact q
theorem bG.cond{x:Operand}{c d:Code}{D E:F→Hp→Out}(hg:∀g,x=.global g→g<G)(hc:bG P keep G N c D)(hd:bG P keep G N d E):bG P keep G N (.cond x c d) (asU x D E):=by
 intro ro n Df fr h M a w hne at_
 obtain⟨v,env,e1,hv,-⟩:=D9 hne at_ hg (iH.nil M a) (rfl:asU x D E fr h=_)
 rw [←e1] at hne⊢
 cases v<;>simp only [ne_eq,not_true_eq_false] at hne⊢
 rename_i t
 have ht:=hv.bool
 cases t
 ·exact wpIn_cond_false ht (hd _ _ _ fr h M a w hne at_)
 ·exact wpIn_cond_true ht (hc _ _ _ fr h M a w hne at_)
theorem bG.block{id:Nat}{c:Code}{D:F→Hp→Out}(hc:bG P keep G N c D):bG P keep G N (.block id c) (dU id D):=by
 intro ro n Df fr h M a w hne at_
 refine wpIn_block ?_
 unfold dU at hne⊢
 cases e1:D fr h with
 |bad=>rw [e1] at hne;exact absurd rfl hne
 |nor fr1 h1=>
  refine wpIn_mono (hc _ _ _ fr h M a w (by rw [e1];simp) at_) ?_
  intro x a' w' q
  rw [e1] at q
  cases x<;>simp only [eP] at q
  exact q
 |ret fr1 h1=>
  refine wpIn_mono (hc _ _ _ fr h M a w (by rw [e1];simp) at_) ?_
  intro x a' w' q
  rw [e1] at q
  cases x<;>simp only [eP] at q
  exact q
 |ex i fr1 h1=>
  refine wpIn_mono (hc _ _ _ fr h M a w (by rw [e1];simp) at_) ?_
  intro x a' w' q
  rw [e1] at q
  cases x<;>simp only [eP] at q
  obtain⟨rfl,q⟩:=q
  simp only [Exit.inBlock]
  cases hb:Nat.beq _ id with
  |true=>rw [if_pos (Nat.eq_of_beq_eq_true hb)];exact q
  |false=>rw [if_neg (Nat.ne_of_beq_eq_false hb)];exact⟨rfl,q⟩
theorem abM(b:F→Hp→Out)(fr:F)(h:Hp):eU b 0 fr h=.bad:=rfl
theorem Ak(b:F→Hp→Out)(n:Nat)(fr:F)(h:Hp):eU b (n+1) fr h=(match b fr h with
  | .nor fr h=>eU b n fr h
  | .ret fr h=>.ret fr h
  | .ex i fr h=>.ex i fr h
  | .bad=>.bad):=rfl
theorem bG.loop{c:Code}{D:F→Hp→Out}(hc:bG P keep G N c D)(n:Nat):bG P keep G N (.loop c) (eU D n):=by
 intro ro n0 Df fr h M a w hne at_
 generalize hout:eU D n fr h=out at hne
 let I:Nat→Act→World→Prop:=fun m a' w'=>∃fr' h' M',eU D m fr' h'=out∧At keep G N Df M' fr' h' a' w'∧Ext M h w M' h' w'
 intro b k cs hro hb hrm
 have key:∀(n:Nat) a' w',I n a' w'→∃e a'' w'',eP keep G N Df M h w out e a'' w''∧ArrivesIn (Machine.fenced P (gX ro)) P (lone (b.atR a' (.code c:: .inLoop c::k)) cs w') b k cs e a'' w'':=by
  intro n
  induction n with
  |zero=>rintro a' w' ⟨fr',h',M',e,-⟩;rw [abM] at e;exact absurd e.symm hne
  |succ n ih=>
   rintro a' w' ⟨fr',h',M',e,at',hx⟩
   rw [Ak] at e
   have hr:c.wpIn (gX ro) n0 P (Exit.then (fun a w=>I n a w) (eP keep G N Df M h w out)) a' w':=by
    cases e1:D fr' h' with
    |bad=>rw [e1] at e;exact absurd e.symm hne
    |nor fr1 h1=>
     rw [e1] at e
     refine wpIn_mono (hc _ _ _ fr' h' M' a' w' (by rw [e1];simp) at') ?_
     intro x a2 w2 q
     rw [e1] at q
     cases x<;>simp only [eP] at q
     obtain⟨M2,at2,hx2⟩:=q
     exact⟨fr1,h1,M2,e,at2,hx.trans hx2⟩
    |ret fr1 h1=>
     rw [e1] at e
     refine wpIn_mono (hc _ _ _ fr' h' M' a' w' (by rw [e1];simp) at') ?_
     intro x a2 w2 q
     rw [e1] at q
     cases x<;>simp only [eP] at q
     obtain⟨M2,at2,hx2⟩:=q
     subst e
     exact⟨M2,at2,hx.trans hx2⟩
    |ex i fr1 h1=>
     rw [e1] at e
     refine wpIn_mono (hc _ _ _ fr' h' M' a' w' (by rw [e1];simp) at') ?_
     intro x a2 w2 q
     rw [e1] at q
     cases x<;>simp only [eP] at q
     obtain⟨rfl,M2,at2,hx2⟩:=q
     subst e
     exact⟨rfl,M2,at2,hx.trans hx2⟩
   obtain⟨x,a₁,w₁,hq,harr⟩:=hr b (.inLoop c::k) cs hro hb hrm
   cases x with
   |normal=>
    obtain⟨x2,a₂,w₂,hq₂,harr₂⟩:=ih a₁ w₁ hq
    exact⟨x2,a₂,w₂,hq₂,.of_steps (StepsIn.trans harr (.one (fenced_calm hb hrm rfl) stepR_inLoop)) harr₂⟩
   |exit id=>exact⟨_,a₁,w₁,hq,.pass (x:=.inLoop c) rfl (fun _ _=>.inl (by simp)) harr⟩
   |goto l=>exact⟨_,a₁,w₁,hq,.pass (x:=.inLoop c) rfl (fun _ _=>.inl (by simp)) harr⟩
   |ret=>exact⟨_,a₁,w₁,hq,.pass (x:=.inLoop c) rfl (fun _ _=>.inl (by simp)) harr⟩
   |panic ch=>exact⟨_,a₁,w₁,hq,.pass (x:=.inLoop c) rfl (fun _ _=>.inl (by simp)) harr⟩
   |outgrown=>exact⟨_,a₁,w₁,hq,.pass (x:=.inLoop c) rfl (fun _ _=>.inl (by simp)) harr⟩
 obtain⟨x,a',w',hq,harr⟩:=key n a w ⟨fr,h,M,hout,at_,.refl at_.rel⟩
 exact⟨x,a',w',hq,.of_steps (.one (fenced_calm hb hrm rfl) stepR_loop) harr⟩
theorem jS{b:Frame}{a:Act}{k:List Item}{cs:List Frame}{w:World}{c:Code}:step P (lone (b.atR a (.code (.scope c)::k)) cs w)=.next (lone (b.atR a (.code c:: .inScope c::k)) cs w):=
 step_lone_go (by simp [stepG,stepG.exec,Frame.atR])
theorem G9{b:Frame}{a:Act}{k:List Item}{cs:List Frame}{w:World}{c:Code}:step P (lone (b.atR a (.inScope c::k)) cs w)=.next (lone (b.atR a k) cs w):=
 step_lone_go (by simp [stepG,stepG.exec,Frame.atR])
theorem abd{ro:Option Nat}{n:Nat}{Q:Exit→Act→World→Prop}{a:Act}{w:World}{c:Code}(h:c.wpIn (gX ro) n P (Exit.noGoto Q) a w):(Code.scope c).wpIn (gX ro) n P Q a w:=by
 intro b k cs hro hb hr
 have h0:(lone (b.atR a (.code (.scope c)::k)) cs w).fenced P (gX ro):=fenced_calm hb hr rfl
 obtain⟨e,a₁,w₁,hq,harr⟩:=h b (.inScope c::k) cs hro hb hr
 cases e with
 |normal=>exact⟨.normal,a₁,w₁,hq,.head h0 jS (StepsIn.trans harr (.one (fenced_calm hb hr rfl) G9))⟩
 |exit id=>
  have hx:exitTo id (.inScope c::k)=exitTo id k:=by simp [exitTo]
  exact⟨.exit id,a₁,w₁,hq,fun k' hk=>.head h0 jS (harr.1 k' (by rw [hx];exact hk)),fun hr' hk=>let ⟨k₁,h1,h2⟩:=harr.2 hr' (by rw [hx];exact hk);⟨k₁,h1,.head h0 jS h2⟩⟩
 |goto l=>exact hq.elim
 |ret=>exact⟨_,a₁,w₁,hq,.of_steps (.one h0 jS) harr⟩
 |panic ch=>exact⟨_,a₁,w₁,hq,.of_steps (.one h0 jS) harr⟩
 |outgrown=>exact⟨_,a₁,w₁,hq,.of_steps (.one h0 jS) harr⟩
theorem bG.scope{c:Code}{D:F→Hp→Out}(hc:bG P keep G N c D):bG P keep G N (.scope c) D:=by
 intro ro n Df fr h M a w hne at_
 refine abd (wpIn_mono (hc _ _ _ fr h M a w hne at_) fun x a' w' q=>?_)
 cases x<;>first|exact q|(revert q;cases D fr h<;>simp [eP])
theorem bG.nor{c:Code}(hw:∀(ro:Option Nat) (n:Nat) (Q:Exit→Act→World→Prop) a w,Q .normal a w→c.wpIn (gX ro) n P Q a w):bG P keep G N c .nor:=by
 intro ro n Df fr h M a w hne at_
 exact hw _ _ _ _ _ ⟨M,at_,.refl at_.rel⟩
theorem bG.bad{c:Code}:bG P keep G N c (fun _ _=>.bad):=fun _ _ _ _ _ _ _ _ hne _=>absurd rfl hne
theorem Jh(ops:Array Oper):(List.range ops.size).filterMap (ops[·]?)=ops.toList:=by
 have:∀(n:Nat),n≤ops.size→(List.range n).filterMap (ops[·]?)=ops.toList.take n:=by
  intro n
  induction n with
  |zero=>intro _;rfl
  |succ n ih=>
   intro hn
   rw [List.range_succ,List.filterMap_append,ih (by omega)]
   have hlt:n<ops.size:=by omega
   rw [List.filterMap_cons_some (Array.getElem?_eq_getElem hlt),List.filterMap_nil]
   rw [List.take_add_one,List.getElem?_eq_getElem (by simpa using hlt)]
   simp
 rw [this _ (Nat.le_refl _),List.take_of_length_le (by simp)]
theorem bG.region(hE:∀f F,e f=some F→aj P G f F){id:Nat}{ops:Array Oper}(hops:∀o∈ops.toList,iM G N o=true):bG P keep G N (.region id ops false) (jV P keep e ops ops.toList []):=by
 intro ro n Df fr h M a w hne at_
 refine wpIn_region (auI (fun _ _ _ h=>h) eP.abI (fun o ho=>qH (hops o ho)) _ _ _ ?_)
 refine avO hE hops hne _ [] fr h M a w (fun i hi=>List.mem_range.1 hi) at_ (iH.nil M a) ?_
 rw [Jh]
theorem qf{id:Nat}{ops:Array Oper}{d:Bool}(h:codeOk G N (.region id ops d)=true):∀o∈ops.toList,∀c,o.op≠ .defer c:=fun o ho=>by
 simp only [codeOk,List.all_eq_true] at h
 exact qH (h o ho)
end
end Go.Vm
namespace Go.Vm
noncomputable section
variable{P:Program}{G:Nat}{M:Mp}{h h':Hp}{w:World}{r:V}{keep:Nat→Bool}{N:Nat}{e:FuncId→Option Fun}
theorem IK{t:TypeId}{d:TypeDesc}(ht:P.underlying t=some d):(isAgg t).run P w=.ok (Et d) w:=by
 simp only [isAgg,Sem.run_bind,run_underlying ht,Result.andThen_ok]
 cases d<;>rfl
theorem abP{t:TypeId}{v:V}{c:Value}(hr:Rel G M h w)(ha:Rp M v c)(e:xA P t v h=.ok r h'):
  h'=h∧∃d,(do loadVar t (←asAddr c):Sem Value).run P w=.ok d w∧Rp M r d:=by
 unfold xA at e
 split at e
 ·rename_i d hd
  split at e
  ·rename_i hag
   split at e
   ·rename_i ti hti
    obtain⟨i,o,rfl,e⟩:=fO e
    obtain⟨wr,cs,hi,e⟩:=dG e
    obtain⟨L,hL,rfl⟩:=ha.ptr
    split at e
    ·rename_i l hl
     cases e
     obtain⟨xs,hx,hxl,hxs,hxc⟩:=hr.cells hi hL hl
     refine⟨rfl,.agg xs.toArray,?_,uS hx hxs⟩
     have:=run_loadCells_list (P:=P) w (L.at o) xs hxc
     rw [hxl] at this
     simp only [asAddr,loadVar,Sem.run_bind,Sem.run_pure,Result.andThen_ok,IK hd,hag]
     simp [sizeOf,typeInfo,hti,this]
    ·cases e
   ·cases e
  ·rename_i hag
   obtain⟨i,o,rfl,e⟩:=fO e
   obtain⟨wr,cs,hi,e⟩:=dG e
   obtain⟨L,hL,rfl⟩:=ha.ptr
   rw [jB] at e
   split at e
   ·rename_i v hv
    cases e
    obtain⟨x,hx,hrx,_⟩:=hr.cell hi hL hv
    refine⟨rfl,x,?_,hrx⟩
    simp only [asAddr,loadVar,Sem.run_bind,Sem.run_pure,Result.andThen_ok,IK hd,hag]
    simp [run_load,hx]
   ·cases e
 ·cases e
def kR(keep:Nat→Bool):Nat→List V→F→F
 |_,[],fr=>fr
 |i,v::l,fr=>(match keep i with|true=>kR keep (i+1) l (fr.set (some v) (Pos.of i))|false=>kR keep (i+1) l fr)
def fG(P:Program):List ResultVar→F→Hp→(List V→R V)→R V
 | [],_,_,k=>k []
 | .tmp t::l,fr,h,k=>(match fr.get (Pos.of t) with|some v=>fG P l fr h fun vs=>k (v::vs)|none=>.bad)
 | .cell a t::l,fr,h,k=>(match fr.get (Pos.of a) with
  |some p=>(match xA P t p h with| .ok v _=>fG P l fr h fun vs=>k (v::vs)| .bad=>.bad)
  |none=>.bad)
def gB(vs:List V)(h:Hp):R V:=match vs with| [v]=>.ok v h|_=>.ok (.tuple (V.ofList vs)) h
def bD(P:Program)(rs:List ResultVar):Out→R V
 | .nor fr h=>fG P rs fr h fun vs=>gB vs h
 | .ret fr h=>fG P rs fr h fun vs=>gB vs h
 |_=>.bad
def qw(P:Program)(keep:Nat→Bool)(N:Nat)(rs:List ResultVar)(D:F→Hp→Out):Fun:=fun args h=>match Nat.ble args.length N with
 |true=>bD P rs (D (kR keep 0 args .nil) h)
 |false=>.bad
theorem sW(keep:Nat→Bool)(a:Act):∀(vs:List V) (i:Nat) (fr:F),(∀j v,vs[j]?=some v→Rp M v (a.tmps.getD (i+j) undef))→lW keep M fr a→lW keep M (kR keep i vs fr) a
 | [],_,_,_,hf=>hf
 |v::vs,i,fr,hv,hf=>by
  have hrest:∀j u,vs[j]?=some u→Rp M u (a.tmps.getD (i+1+j) undef):=fun j u hj=>by
   have:=hv (j+1) u (by simpa using hj)
   rwa [show i+(j+1)=i+1+j by omega] at this
  unfold kR
  split
  ·rename_i hk
   refine sW keep a vs (i+1) _ hrest fun t x hx=>?_
   by_cases ht:t=i
   ·subst ht
    rw [T.gU] at hx;cases hx
    exact⟨hk,hv 0 v rfl⟩
   ·rw [T.iO _ (fun e=>ht (Pos.ve e))] at hx
    exact hf t x hx
  ·exact sW keep a vs (i+1) _ hrest hf
def IQ(tmps:Array Value):ResultVar→Sem Value
 | .tmp t=>pure (tmps.getD t undef)
 | .cell a t=>do loadVar t (←asAddr (tmps.getD a undef))
theorem rZ(fn:Func)(tmps:Array Value):results fn tmps=(do
 let vs←fn.results.mapM (IQ tmps)
 pure (if h:vs.size=1 then vs[0] else .tuple vs)):=rfl
theorem DT{fr:F}{a:Act}(hr:Rel G M h w)(hf:lW keep M fr a):∀(rs:List ResultVar) (k:List V→R V),fG P rs fr h k=.ok r h'→
  ∃vs cs,k vs=.ok r h'∧aX M vs cs∧(rs.mapM (IQ a.tmps)).run P w=.ok cs w
 | [],k,e=>⟨[],[],e,rfl,rfl⟩
 | .tmp t::l,k,e=>by
  unfold fG at e
  split at e
  ·rename_i v hv
   obtain⟨vs,cs,e1,hvs,hrun⟩:=DT hr hf l _ e
   refine⟨v::vs,_::cs,e1,⟨_,_,(hf t v hv).2,hvs,rfl⟩,?_⟩
   rw [List.mapM_cons]
   simp only [IQ,Sem.run_bind,Sem.run_pure,Result.andThen_ok,hrun]
  ·cases e
 | .cell x t::l,k,e=>by
  unfold fG at e
  split at e
  ·rename_i p hp
   split at e
   ·rename_i v h2 hl
    obtain⟨_,d,hd,hvd⟩:=abP hr (hf x p hp).2 hl
    obtain⟨vs,cs,e1,hvs,hrun⟩:=DT hr hf l _ e
    refine⟨v::vs,d::cs,e1,⟨_,_,hvd,hvs,rfl⟩,?_⟩
    rw [List.mapM_cons,Sem.run_bind];rw [show(IQ a.tmps (.cell x t)).run P w=.ok d w from hd]
    simp only [Sem.run_bind,Sem.run_pure,Result.andThen_ok,hrun]
   ·cases e
  ·cases e
theorem lN{fn:Func}{fr:F}{a:Act}(hr:Rel G M h w)(hf:lW keep M fr a)(e:fG P fn.results.toList fr h (fun vs=>gB vs h)=.ok r h'):
  h'=h∧∃c,(results fn a.tmps).run P w=.ok c w∧Rp M r c:=by
 obtain⟨vs,cs,e1,hvs,hrun⟩:=DT hr hf _ _ e
 have hlen:=hvs.length
 have hm:(fn.results.mapM (IQ a.tmps)).run P w=.ok cs.toArray w:=by
  rw [Array.mapM_eq_mapM_toList]
  simp only [Sem.run_map,hrun]
  rfl
 unfold gB at e1
 split at e1
 ·rename_i v
  cases e1
  obtain⟨x,xs,hx,hxs,rfl⟩:=hvs
  cases hxs
  refine⟨rfl,x,?_,hx⟩
  rw [rZ,Sem.run_bind,hm]
  simp
 ·rename_i hn
  cases e1
  refine⟨rfl,.tuple cs.toArray,?_,IL hvs⟩
  rw [rZ,Sem.run_bind,hm]
  have hne:cs.toArray.size≠1:=by
   intro h1
   have:vs.length=1:=by simp at h1;omega
   obtain⟨v,rfl⟩:=List.length_eq_one_iff.1 this
   exact hn v rfl
  simp [hne] at*
  simp [hne]
theorem YH{f:FuncId}{fn:Func}{c:Code}{D:F→Hp→Out}(hf:P.funcs[f]?=some fn)(hn:(fn.name== "runtime.NumGoroutine")=false)(hb:fn.body=some c)(hD:bG P keep G fn.ntmps c D):
  aj P G f (qw P keep fn.ntmps fn.results.toList D):=by
 intro args h r h' M w cargs e hr hargs
 have hrun:(callFunc f cargs.toArray).run P w=.ok (.enter f cargs.toArray) w:=by
  unfold callFunc
  rw [Sem.run_bind,run_program];have hn':¬fn.name= "runtime.NumGoroutine" :=by simpa using hn
  simp [hf,hn',hb]
 rw [hrun]
 simp only [Opq]
 unfold qw at e
 split at e
 ·rename_i hle
  have hle:=Nat.le_of_ble_eq_true hle
  refine calls_of_wp hf hb ?_
  have hlen:=hargs.length
  have hat:At keep G fn.ntmps [] M (kR keep 0 args .nil) h {tmps:=cargs.toArray++Array.replicate (fn.ntmps - cargs.toArray.size) undef,defers:= []} w:=by
   refine⟨hr,sW keep _ args 0 _ (fun j v hj=>?_) (fun t v hv=>by rw [T.get_nil] at hv;cases hv),by simp;omega,rfl⟩
   obtain⟨x,hx,hrx⟩:=hargs.get hj
   have hj':j<cargs.length:=by
    rcases Nat.lt_or_ge j cargs.length with h1|h1
    ·exact h1
    ·rw [List.getElem?_eq_none h1] at hx;cases hx
   have:(cargs.toArray++Array.replicate (fn.ntmps - cargs.toArray.size) undef).getD (0+j) undef=x:=by
    rw [Array.getD_eq_getD_getElem?,Array.getElem?_append_left (by simpa using hj')]
    simp [hx]
   simp only [this]
   exact hrx
  cases e1:D (kR keep 0 args .nil) h with
  |bad=>rw [e1] at e;cases e
  |ex i fr2 h2=>rw [e1] at e;cases e
  |nor fr2 h2=>
   rw [e1] at e
   refine wp_mono (hD.wp _ _ _ _ _ _ (by rw [e1];simp) hat) ?_
   intro x a' w' q
   rw [e1] at q
   cases x<;>simp only [eP] at q
   obtain⟨M',at',hx⟩:=q
   obtain⟨rfl,v,hv,hrv⟩:=lN at'.rel at'.fr e
   exact⟨at'.plain,v,hv,v,rfl,M',hrv,at'.rel,hx⟩
  |ret fr2 h2=>
   rw [e1] at e
   refine wp_mono (hD.wp _ _ _ _ _ _ (by rw [e1];simp) hat) ?_
   intro x a' w' q
   rw [e1] at q
   cases x<;>simp only [eP] at q
   obtain⟨M',at',hx⟩:=q
   obtain⟨rfl,v,hv,hrv⟩:=lN at'.rel at'.fr e
   exact⟨at'.plain,v,hv,v,rfl,M',hrv,at'.rel,hx⟩
 ·cases e
def wW(G:Nat)(fn:Func):Bool:=(match fn.body with|some c=>codeOk G fn.ntmps c|none=>false)&&!(fn.name== "runtime.NumGoroutine")
end
end Go.Vm
