/- Part of the value machine, or of a walk by it: lemmas that the claim's last text uses. No conditions. -/
import Derived.Test.YtpgppmioigacoaaGreatDoorSlAA
import Derived.LaidEql
set_option linter.unusedVariables false
set_option linter.unusedSimpArgs false
set_option linter.unnecessarySimpa false
namespace Go.Vm
noncomputable section
variable{P:Program}{G:Nat}{M:Mp}{h h':Hp}{w:World}{r:V}
def isC:Operand→Bool
 | .const _=>true
 |_=>false
theorem DY{op:BinOp}{t:TypeId}{xo yo:Operand}{a b:Value}(h1:a≠ .nilIface∨b≠ .nilIface)(h2:∀c,a≠ .agg c):(eqGuard op t xo yo a b).run P w=.ok () w:=by
 unfold eqGuard
 cases op<;>first
  |rfl
  |(cases a<;>first
    |exact absurd rfl (h2 _)
    |rfl
    |(cases b<;>first|rfl|exact absurd h1 (by simp)))
theorem aHZ{op:BinOp}(hop:TU op=false){t:TypeId}{k:IntKind}{a b:Int}(hr:Rel G M h w)(e:am7 op k a b h=.ok r h'):
  Good P G M h w (binOp op t (.int k a) (.int k b)) r h':=by
 have fin:∀(v:Int) (s:Sem Value),s.run P w=.ok (.int k v) w→iw k v h=.ok r h'→Good P G M h w s r h':=by
  intro v s hs e
  rw [fP] at e;cases e
  exact .same hr hs (iq M k v)
 have finb:∀(v:Bool) (s:Sem Value),s.run P w=.ok (.bool v) w→fM v h=.ok r h'→Good P G M h w s r h':=by
  intro v s hs e
  rw [gm] at e;cases e
  exact .same hr hs (zk M v)
 have nlt:∀x y:Int,(!vS y x)=decide (x<y):=by
  intro x y;rw [UH,Bool.eq_iff_iff];simp
 cases op<;>simp only [TU] at hop<;>simp only [am7,AU,A7,nlt] at e<;>(try simp only [UH] at e)
 case add=>exact fin _ _ (by simp [binOp,Op.intArith]) e
 case sub=>exact fin _ _ (by simp [binOp,Op.intArith];rfl) e
 case mul=>exact fin _ _ (by simp [binOp,Op.intArith]) e
 case quo=>
  split at e
  ·cases e
  ·rename_i hb
   have hb':b≠0:=by simpa using hb
   exact fin _ _ (by simp [binOp,Op.intDiv,hb']) e
 case rem=>
  split at e
  ·cases e
  ·rename_i hb
   have hb':b≠0:=by simpa using hb
   exact fin _ _ (by simp [binOp,Op.intDiv,hb']) e
 case and=>exact fin _ _ (by simp [binOp,Op.intBits]) e
 case or=>exact fin _ _ (by simp [binOp,Op.intBits]) e
 case xor=>exact fin _ _ (by simp [binOp,Op.intBits]) e
 case andNot=>exact fin _ _ (by simp [binOp,Op.intBits]) e
 case eql=>exact finb _ _ (by simp [binOp,Op.intCmp]) e
 case neq=>exact finb _ _ (by simp [binOp,Op.intCmp,bne]) e
 case lss=>exact finb _ _ (by simp [binOp,Op.intCmp]) e
 case leq=>exact finb _ _ (by simp [binOp,Op.intCmp]) e
 case gtr=>exact finb _ _ (by simp [binOp,Op.intCmp]) e
 case geq=>exact finb _ _ (by simp [binOp,Op.intCmp]) e
 all_goals cases e
theorem aCF{op:BinOp}(hop:TU op=true){t:TypeId}{k k':IntKind}{a b:Int}(hr:Rel G M h w)(e:YZ op k a b h=.ok r h'):
  Good P G M h w (binOp op t (.int k a) (.int k' b)) r h':=by
 cases b with
 |negSucc n=>cases e
 |ofNat n=>
  simp only [YZ] at e
  have hn:¬Int.ofNat n<0:=by simp
  cases op<;>simp only [TU,Bool.false_eq_true] at hop<;>simp only [fP] at e<;>cases e
  ·exact .same hr (by simp only [binOp,Op.shift,hn,if_false];rfl) (iq M k _)
  ·exact .same hr (by simp only [binOp,Op.shift,hn,if_false];rfl) (iq M k _)
theorem aDD(s t:List Nat):bts s++bts t=bts (s++t):=by
 apply ByteArray.ext
 simp [bts]
theorem aHk{op:BinOp}{t:TypeId}{s u:List Nat}(hs:∀b∈s,b<256)(hu:∀b∈u,b<256)(hr:Rel G M h w)(e:amw op s u h=.ok r h'):
  Good P G M h w (binOp op t (.string (bts s)) (.string (bts u))) r h':=by
 have finb:∀(v:Bool) (s:Sem Value),s.run P w=.ok (.bool v) w→fM v h=.ok r h'→Good P G M h w s r h':=by
  intro v s hs e
  rw [gm] at e;cases e
  exact .same hr hs (zk M v)
 have e1:=aaE hs hu
 have e2:=aui hs hu
 have b1:=ano s
 have b2:=ano u
 cases op<;>simp only [amw,e1,e2] at e
 case add=>
  split at e
  ·rename_i hl
   cases e
   have hl':s.length+u.length<4611686018427387904:=by simpa [Nat.blt_eq] using hl
   have hn:¬(((bts s).size+(bts u).size:Nat):Int)>IntKind.i64.max:=by
    rw [lT,lT]
    simp only [IntKind.max,IntKind.signed,IntKind.bits,if_true]
    omega
   refine .same hr (c:=.string (bts (s++u))) ?_ (Oh (fun b hb=>?_))
   ·simp only [binOp,Op.stringOp,hn,if_false,aDD]
    rfl
   ·rcases List.mem_append.1 hb with hb|hb
    ·exact hs b hb
    ·exact hu b hb
  ·cases e
 case eql=>exact finb _ _ (by simp only [binOp,Op.stringOp,b1,b2];rfl) e
 case neq=>exact finb _ _ (by simp only [binOp,Op.stringOp,b1,b2];rfl) e
 case lss=>exact finb _ _ (by simp only [binOp,Op.stringOp,b1,b2];rfl) e
 case leq=>exact finb _ _ (by simp only [binOp,Op.stringOp,b1,b2];rfl) e
 case gtr=>exact finb _ _ (by simp only [binOp,Op.stringOp,b1,b2];rfl) e
 case geq=>exact finb _ _ (by simp only [binOp,Op.stringOp,b1,b2];rfl) e
 all_goals cases e
theorem amF{t:TypeId}{ms:Array (String×TypeId)}(hd:P.underlying t=some (.interface ms)){op:BinOp}{xo yo:Operand}
  (hl:((isC xo||isC yo)||ms.isEmpty)=true):(eqGuard op t xo yo .nilIface .nilIface).run P w=.ok () w:=by
 by_cases hc:(isC xo||isC yo)=true
 ·unfold eqGuard
  cases xo<;>cases yo<;>first
   |(simp [isC] at hc;done)
   |(cases op<;>rfl)
 ·have hm:ms.isEmpty=true:=by
   cases hm:ms.isEmpty
   ·rw [hm,Bool.or_false] at hl;exact absurd hl hc
   ·rfl
  have hg:∀n,(Op.eqGuardIn (n+1) t .nilIface .nilIface).run P w=.ok false w:=fun n=>by
   simp [Op.eqGuardIn,run_underlying hd,hm]
  have hg':(Op.eqGuardIn Op.maxDepth t .nilIface .nilIface).run P w=.ok false w:=by rw [show Op.maxDepth=9999+1 from rfl];exact hg 9999
  clear hg
  unfold eqGuard
  cases xo<;>cases yo<;>first
   |(exfalso;exact hc rfl)
   |(cases op<;>first|rfl|simp [hg'])
set_option maxHeartbeats 2000000 in
theorem auq{d:TypeDesc}{t:TypeId}{sz:Nat}{xo yo:Operand}(hd:P.underlying t=some d)(hsz:∀e,d=.pointer e→∃ti,P.info? e=some ti∧ti.size=sz)
  {x y:V} {a b:Value} (hx:Rp M x a) (hy:Rp M y b) {k:Bool→R V} (e:ahw (ahU d sz (isC xo||isC yo)) x y k=.ok r h'):
  ∃q,k q=.ok r h'∧(∀op,(eqGuard op t xo yo a b).run P w=.ok () w)∧(Op.equal t a b).run P w=.ok q w∧(∀c,a≠ .agg c)∧
   (∀op z,(op=.eql→binOp op t a b=(do pure (.bool (←Op.equal t a b))))∧(op=.neq→z=0→binOp op t a b=(do pure (.bool (!(←Op.equal t a b)))))):=by
 have hq:∀{a b:Value} {q:Bool},(∀n,(Op.equalIn (n+1) t a b).run P w=.ok q w)→(Op.equal t a b).run P w=.ok q w:=fun h=>h 9999
 have pl:∀{a b:Value},(a≠ .nilIface∨b≠ .nilIface)→(∀c,a≠ .agg c)→∀op,(eqGuard op t xo yo a b).run P w=.ok () w:=fun h1 h2 op=>DY h1 h2
 cases d<;>simp only [ahU,ahw] at e
 case bool=>
  split at e
  ·cases hx.bool;cases hy.bool
   rename_i p q
   refine⟨_,e,pl (.inl (by simp)) (by simp),hq (fun n=>?_),by simp,fun op z=>⟨fun h=>by subst h;rfl,fun h _=>by subst h;rfl⟩⟩
   cases p<;>cases q<;>simp [Op.equalIn,run_underlying hd]
  ·cases e
 case pointer el=>
  obtain⟨ti,hti,hts⟩:=hsz el rfl
  split at e
  ·cases hx.bY
   split at e
   ·cases hy.bY
    exact⟨_,e,pl (.inl (by simp)) (by simp),hq (fun n=>by simp [Op.equalIn,run_underlying hd]),by simp,fun op z=>⟨fun h=>by subst h;rfl,fun h _=>by subst h;rfl⟩⟩
   ·obtain⟨L,hL,rfl⟩:=hy.ptr
    exact⟨_,e,pl (.inl (by simp)) (by simp),hq (fun n=>by simp [Op.equalIn,run_underlying hd]),by simp,fun op z=>⟨fun h=>by subst h;rfl,fun h _=>by subst h;rfl⟩⟩
   ·cases e
  ·rename_i i o
   obtain⟨L,hL,rfl⟩:=hx.ptr
   split at e
   ·cases hy.bY
    exact⟨_,e,pl (.inl (by simp)) (by simp),hq (fun n=>by simp [Op.equalIn,run_underlying hd]),by simp,fun op z=>⟨fun h=>by subst h;rfl,fun h _=>by subst h;rfl⟩⟩
   ·rename_i j p
    obtain⟨K,hK,rfl⟩:=hy.ptr
    split at e
    ·rename_i hz hij
     have hij':=Pos.eq_iff.1 hij
     subst hij'
     rw [hL] at hK;cases hK
     have hne:ti.size≠0:=by rw [hts];exact Nat.ne_of_beq_eq_false hz
     refine⟨_,e,pl (.inl (by simp)) (by simp),hq (fun n=>?_),by simp,fun op z=>⟨fun h=>by subst h;rfl,fun h _=>by subst h;rfl⟩⟩
     have hb:(({block:=L.blk,off:=L.off+o,spot:=none}:Addr)=={block:=L.blk,off:=L.off+p,spot:=none})=Nat.beq o p:=by
      rw [Bool.eq_iff_iff];simp [Nat.beq_eq]
     simp [Op.equalIn,run_underlying hd,sizeOf,typeInfo,hti,hne,sameAddr,Loc.at,hb]
    ·cases e
   ·cases e
  ·cases e
 case slice el=>
  split at e
  ·cases hx.aG;cases hy.aG
   exact⟨_,e,pl (.inl (by simp)) (by simp),hq (fun n=>by simp [Op.equalIn,run_underlying hd]),by simp,fun op z=>⟨fun h=>by subst h;rfl,fun h _=>by subst h;rfl⟩⟩
  ·cases hx.aG;obtain⟨L,m,_,_,rfl⟩:=hy.slice
   exact⟨_,e,pl (.inl (by simp)) (by simp),hq (fun n=>by simp [Op.equalIn,run_underlying hd]),by simp,fun op z=>⟨fun h=>by subst h;rfl,fun h _=>by subst h;rfl⟩⟩
  ·cases hx.aG;obtain⟨L,m,rfl⟩:=hy.emp
   exact⟨_,e,pl (.inl (by simp)) (by simp),hq (fun n=>by simp [Op.equalIn,run_underlying hd]),by simp,fun op z=>⟨fun h=>by subst h;rfl,fun h _=>by subst h;rfl⟩⟩
  ·cases hy.aG;obtain⟨L,m,_,_,rfl⟩:=hx.slice
   exact⟨_,e,pl (.inl (by simp)) (by simp),hq (fun n=>by simp [Op.equalIn,run_underlying hd]),by simp,fun op z=>⟨fun h=>by subst h;rfl,fun h _=>by subst h;rfl⟩⟩
  ·cases hy.aG;obtain⟨L,m,rfl⟩:=hx.emp
   exact⟨_,e,pl (.inl (by simp)) (by simp),hq (fun n=>by simp [Op.equalIn,run_underlying hd]),by simp,fun op z=>⟨fun h=>by subst h;rfl,fun h _=>by subst h;rfl⟩⟩
  ·cases e
 case map kt et=>
  split at e
  ·cases hx.jQ;cases hy.jQ
   exact⟨_,e,pl (.inl (by simp)) (by simp),hq (fun n=>by simp [Op.equalIn,run_underlying hd]),by simp,fun op z=>⟨fun h=>by subst h;rfl,fun h _=>by subst h;rfl⟩⟩
  ·cases hx.jQ;obtain⟨L,_,rfl⟩:=hy.map
   exact⟨_,e,pl (.inl (by simp)) (by simp),hq (fun n=>by simp [Op.equalIn,run_underlying hd]),by simp,fun op z=>⟨fun h=>by subst h;rfl,fun h _=>by subst h;rfl⟩⟩
  ·cases hy.jQ;obtain⟨L,_,rfl⟩:=hx.map
   exact⟨_,e,pl (.inl (by simp)) (by simp),hq (fun n=>by simp [Op.equalIn,run_underlying hd]),by simp,fun op z=>⟨fun h=>by subst h;rfl,fun h _=>by subst h;rfl⟩⟩
  ·cases e
 case func ps rs v=>
  split at e
  ·cases hx.gG;cases hy.gG
   exact⟨_,e,pl (.inl (by simp)) (by simp),hq (fun n=>by simp [Op.equalIn,run_underlying hd]),by simp,fun op z=>⟨fun h=>by subst h;rfl,fun h _=>by subst h;rfl⟩⟩
  ·cases hx.gG;obtain⟨_,_,_,_,_,_,rfl⟩:=hy.func
   exact⟨_,e,pl (.inl (by simp)) (by simp),hq (fun n=>by simp [Op.equalIn,run_underlying hd]),by simp,fun op z=>⟨fun h=>by subst h;rfl,fun h _=>by subst h;rfl⟩⟩
  ·cases hy.gG;obtain⟨_,_,_,_,_,_,rfl⟩:=hx.func
   exact⟨_,e,pl (.inl (by simp)) (by simp),hq (fun n=>by simp [Op.equalIn,run_underlying hd]),by simp,fun op z=>⟨fun h=>by subst h;rfl,fun h _=>by subst h;rfl⟩⟩
  ·cases e
 case interface ms=>
  split at e
  ·cases hx.oJ;cases hy.oJ
   split at e
   ·rename_i hl
    refine⟨_,e,fun op=>?_,hq (fun n=>by simp [Op.equalIn,run_underlying hd]),by simp,fun op z=>⟨fun h=>by subst h;rfl,fun h _=>by subst h;rfl⟩⟩
    exact amF hd hl
   ·cases e
  ·cases hx.oJ;obtain⟨_,_,rfl⟩:=hy.iface
   exact⟨_,e,pl (.inr (by simp)) (by simp),hq (fun n=>by simp [Op.equalIn,run_underlying hd]),by simp,fun op z=>⟨fun h=>by subst h;rfl,fun h _=>by subst h;rfl⟩⟩
  ·cases hy.oJ;obtain⟨_,_,rfl⟩:=hx.iface
   exact⟨_,e,pl (.inl (by simp)) (by simp),hq (fun n=>by simp [Op.equalIn,run_underlying hd]),by simp,fun op z=>⟨fun h=>by subst h;rfl,fun h _=>by subst h;rfl⟩⟩
  ·obtain⟨_,_,rfl⟩:=hx.iface;obtain⟨_,_,rfl⟩:=hy.iface
   split at e
   ·rename_i htu
    have:¬_=_:=Nat.ne_of_beq_eq_false htu
    exact⟨_,e,pl (.inl (by simp)) (by simp),hq (fun n=>by simp [Op.equalIn,run_underlying hd,this]),by simp,fun op z=>⟨fun h=>by subst h;rfl,fun h _=>by subst h;rfl⟩⟩
   ·cases e
  ·cases e
 all_goals cases e
theorem aNT{op:BinOp}{t:TypeId}{d:TypeDesc}{sz:Nat}{xo yo:Operand}(hd:P.underlying t=some d)(hsz:∀e,d=.pointer e→∃ti,P.info? e=some ti∧ti.size=sz)
  {x y:V} {a b:Value} (hr:Rel G M h w) (hx:Rp M x a) (hy:Rp M y b) (e:aI op (ahU d sz (isC xo||isC yo)) x y h=.ok r h'):
  Good P G M h w (do eqGuard op t xo yo a b;binOp op t a b) r h':=by
 have seqd:∀{s:Sem Value},(eqGuard op t xo yo a b).run P w=.ok () w→Good P G M h w s r h'→Good P G M h w (do eqGuard op t xo yo a b;s) r h':=by
  rintro s hg ⟨c,w',M',h1,h2⟩
  exact⟨c,w',M',by simp [hg,h1],h2⟩
 unfold aI at e
 split at e
 ·cases hx.int
  split at e
  ·cases hy.int
   refine seqd (DY (.inl (by simp)) (by simp)) ?_
   split at e
   ·rename_i hs;exact aCF hs hr e
   ·rename_i hs
    split at e
    ·rename_i hk
     cases KD hk
     exact aHZ hs hr e
    ·cases e
  ·cases e
 ·cases hx.str.2
  split at e
  ·cases hy.str.2
   refine seqd (DY (.inl (by simp)) (by simp)) ?_
   exact aHk hx.str.1 hy.str.1 hr e
  ·cases e
 ·split at e
  ·obtain⟨q,e,hg,he,_,hb⟩:=auq (w:=w) hd hsz hx hy e
   rw [gm] at e;cases e
   refine seqd (hg _) (.same hr ?_ (zk M q))
   rw [(hb .eql 0).1 rfl]
   simp [he]
  ·obtain⟨q,e,hg,he,_,hb⟩:=auq (w:=w) hd hsz hx hy e
   rw [gm] at e;cases e
   refine seqd (hg _) (.same hr ?_ (zk M _))
   rw [(hb .neq 0).2 rfl rfl]
   simp [he]
  ·cases e
end
end Go.Vm

namespace Go.Vm
noncomputable section
variable{P:Program}{G:Nat}{M:Mp}{h h':Hp}{w:World}{r:V}
def atI(c a b:V)(h:Hp):R V:=asBool c fun q=>match q with|true=>.ok a h|false=>.ok b h
def aK(x:V)(h:Hp):R V:=match x with
 | .bY| .oJ| .gG=>.bad
 | .func fn a b=>(match fn with| .method _=>.bad|_=>.ok (.func fn a b) h)
 |x=>.ok x h
def aC1(n:Nat)(l:V):Option V:=
 Nat.rec (motive:=fun _=>V→Option V) (fun l=>match l with| .cons a _=>some a|_=>none) (fun _ ih l=>match l with| .cons _ t=>ih t|_=>none) n l
theorem aAq(n:Nat):∀l:V,aC1 n l=l.list[n]?:=by
 induction n with
 |zero=>intro l;cases l<;>rfl
 |succ n ih=>intro l;cases l<;>first|exact ih _|rfl
def bJ(n:Nat)(x:V)(h:Hp):R V:=match x with
 | .tuple l=>(match aC1 n l with|some v=>.ok v h|none=>.bad)
 |_=>.bad
def oUn(op:UnOp)(x:V)(h:Hp):R V:=match op with
 | .neg=>asInt x fun k n=>iw k (xq k (Int.sub 0 n)) h
 | .xor=>asInt x fun k n=>iw k (k.wrap (BitVec.ofInt k.bits (if k.signed then -1 else k.max)^^^BitVec.ofInt k.bits n).toNat) h
 | .not=>asBool x fun b=>fM (not b) h
 | .plus=>.bad
def kU(k:IntKind)(x:V)(h:Hp):R V:=asInt x fun _ n=>iw k (xq k n) h
def UA(x:V)(h:Hp):R V:=match x with| .str s=>.ok (.str s) h|_=>.bad
def au0(t:TypeId)(x:V)(h:Hp):R V:=.ok (.iface t x) h
def fK(fn:Fn)(f c:List V)(h:Hp):R V:=match ahC fn with|true=>.ok (.func fn (V.ofList f) (V.ofList c)) h|false=>.bad
def aC(off:Nat)(x:V)(h:Hp):R V:=ug x fun i o=>eu (o+off) fun q=>.ok (.ptr i q) h
def bU(sz:Nat)(x i:V)(h:Hp):R V:=lV i fun k=>match x with
 | .slice i o n _=>(match Nat.blt k n with|true=>eu (o+k*sz) fun q=>.ok (.ptr i q) h|false=>.bad)
 |_=>.bad
def ahJ(len sz:Nat)(x i:V)(h:Hp):R V:=lV i fun k=>ug x fun i o=>
 match Nat.blt k len with|true=>eu (o+k*sz) fun q=>.ok (.ptr i q) h|false=>.bad
def aHH(n:Nat)(l:List Nat):Option Nat:=
 Nat.rec (motive:=fun _=>List Nat→Option Nat) (fun l=>List.casesOn l none (fun a _=>some a)) (fun _ ih l=>List.casesOn l none (fun _ t=>ih t)) n l
theorem aAp(n:Nat):∀l:List Nat,aHH n l=l[n]?:=by
 induction n with
 |zero=>intro l;cases l<;>rfl
 |succ n ih=>intro l;cases l with
  |nil=>rfl
  |cons a t=>exact(ih t).trans (by simp)
def dG(x i:V)(h:Hp):R V:=lV i fun k=>match x with
 | .str s=>(match aHH k s with|some b=>.ok (.int .u8 (.ofNat b)) h|none=>.bad)
 |_=>.bad
def aCW(ag:Bool)(sz off:Nat)(x:V)(h:Hp):R V:=match x with
 | .agg l=>(match ag with
  |false=>(match aC1 off l with|some v=>.ok v h|none=>.bad)
  |true=>(match gB sz (fG off l.list) with|some vs=>.ok (.agg (V.ofList vs)) h|none=>.bad))
 |_=>.bad
theorem ay3{x:V}{a:Value}(hx:Rp M x a)(e:aK x h=.ok r h'):r=x∧h'=h∧
  (∀ρ o op,o.op=.nilCheck op→ρ op=a→(execOp ρ o).run P w=.ok (.value a) w):=by
 have fin:∀{x:V} {a:Value},(R.ok x h:R V)=.ok r h'→(∀ρ o op,o.op=Op.nilCheck op→ρ op=a→(execOp ρ o).run P w=.ok (.value a) w)→
   r=x∧h'=h∧(∀ρ o op,o.op=.nilCheck op→ρ op=a→(execOp ρ o).run P w=.ok (.value a) w):=by
  intro x a e hh;cases e;exact⟨rfl,rfl,hh⟩
 cases x with
 |bY=>cases e
 |oJ=>cases e
 |gG=>cases e
 |func fn p q=>
  obtain⟨g,_,_,hg,_,_,rfl⟩:=hx.func
  cases fn with
  |method n=>cases e
  |yield k=>obtain⟨L,_,rfl⟩:=hg;exact fin e (fun ρ o op ho hρ=>by simp only [execOp,ho,hρ];rfl)
  |func f=>obtain rfl:g=.func f:=hg;exact fin e (fun ρ o op ho hρ=>by simp only [execOp,ho,hρ];rfl)
  |methodOf t n=>obtain rfl:g=.methodOf t n:=hg;exact fin e (fun ρ o op ho hρ=>by simp only [execOp,ho,hρ];rfl)
  |via t pa f b=>obtain rfl:g=.via t pa f b:=hg;exact fin e (fun ρ o op ho hρ=>by simp only [execOp,ho,hρ];rfl)
 |nil=>cases hx.1
 |cons a b=>cases hx.1
 |bool b=>cases hx.bool;exact fin e (fun ρ o op ho hρ=>by simp only [execOp,ho,hρ];rfl)
 |int k n=>cases hx.int;exact fin e (fun ρ o op ho hρ=>by simp only [execOp,ho,hρ];rfl)
 |str s=>cases hx.str.2;exact fin e (fun ρ o op ho hρ=>by simp only [execOp,ho,hρ];rfl)
 |ptr i o=>obtain⟨L,_,rfl⟩:=hx.ptr;exact fin e (fun ρ o op ho hρ=>by simp only [execOp,ho,hρ];rfl)
 |slice i o n k=>obtain⟨L,m,_,_,rfl⟩:=hx.slice;exact fin e (fun ρ o op ho hρ=>by simp only [execOp,ho,hρ];rfl)
 |aG=>cases hx.aG;exact fin e (fun ρ o op ho hρ=>by simp only [execOp,ho,hρ];rfl)
 |emp=>obtain⟨_,_,rfl⟩:=hx.emp;exact fin e (fun ρ o op ho hρ=>by simp only [execOp,ho,hρ];rfl)
 |map i=>obtain⟨L,_,rfl⟩:=hx.map;exact fin e (fun ρ o op ho hρ=>by simp only [execOp,ho,hρ];rfl)
 |jQ=>cases hx.jQ;exact fin e (fun ρ o op ho hρ=>by simp only [execOp,ho,hρ];rfl)
 |iface t v=>obtain⟨_,_,rfl⟩:=hx.iface;exact fin e (fun ρ o op ho hρ=>by simp only [execOp,ho,hρ];rfl)
 |agg l=>obtain⟨_,_,_,rfl⟩:=hx.agg;exact fin e (fun ρ o op ho hρ=>by simp only [execOp,ho,hρ];rfl)
 |tuple l=>obtain⟨_,_,rfl⟩:=hx.tuple;exact fin e (fun ρ o op ho hρ=>by simp only [execOp,ho,hρ];rfl)
theorem aDn{n:Nat}{x:V}{a:Value}(hr:Rel G M h w)(hx:Rp M x a)(e:bJ n x h=.ok r h'):Good P G M h w (Instr.extract a n) r h':=by
 unfold bJ at e
 split at e
 ·obtain⟨l,hl,rfl⟩:=hx.tuple
  split at e
  ·rename_i v hv
   cases e
   rw [aAq] at hv
   obtain⟨y,hy,hrp⟩:=hl.get hv
   exact .same hr (c:=y) (by simp [Instr.extract,hy]) hrp
  ·cases e
 ·cases e
theorem aPt{op:UnOp}{x:V}{a:Value}(hr:Rel G M h w)(hx:Rp M x a)(e:oUn op x h=.ok r h'):Good P G M h w (Op.unary op a) r h':=by
 cases op
 case neg=>
  obtain⟨k,n,rfl,e1⟩:=FQ e
  cases hx.int
  rw [fP,AU] at e1;cases e1
  exact .same hr (by simp [Op.unary,Op.intArith,show Int.sub 0 n=0 - n from rfl]) (iq M k _)
 case xor=>
  obtain⟨k,n,rfl,e1⟩:=FQ e
  cases hx.int
  rw [fP] at e1;cases e1
  exact .same hr (by simp [Op.unary,Op.intBits]) (iq M k _)
 case not=>
  obtain⟨b,rfl,e1⟩:=ar0 e
  cases hx.bool
  rw [gm] at e1;cases e1
  exact .same hr (by simp [Op.unary]) (zk M _)
 case plus=>cases e
theorem aDx{s d:TypeId}{ds:TypeDesc}{k:IntKind}(hs:P.underlying s=some ds)(hd:P.underlying d=some (.int k)){x:V}{a:Value}(hr:Rel G M h w)(hx:Rp M x a)(e:kU k x h=.ok r h'):
  Good P G M h w (convert s d a) r h':=by
 obtain⟨k',n,rfl,e1⟩:=FQ e
 cases hx.int
 rw [fP,AU] at e1;cases e1
 exact .same hr (by simp [convert,run_underlying hs,run_underlying hd,Conv.intToInt]) (iq M k _)
theorem aDw{s d:TypeId}{ds:TypeDesc}(hs:P.underlying s=some ds)(hd:P.underlying d=some .string){x:V}{a:Value}(hr:Rel G M h w)(hx:Rp M x a)(e:UA x h=.ok r h'):
  Good P G M h w (convert s d a) r h':=by
 unfold UA at e
 split at e
 ·cases hx.str.2
  cases e
  refine .same hr (c:=.string (bts _)) ?_ hx
  simp only [convert,Sem.run_bind,run_underlying hs,run_underlying hd,Result.andThen_ok]
  cases ds<;>rfl
 ·cases e
theorem aH2{t:TypeId}{d:TypeDesc}(hd:P.underlying t=some d)(hni:∀ms,d≠ .interface ms){x:V}{a:Value}(hr:Rel G M h w)(hx:Rp M x a)(e:au0 t x h=.ok r h'):
  Good P G M h w (Instr.makeInterface t a) r h':=by
 cases e
 refine .same hr (c:=.iface t a) ?_ ⟨rfl,a,hx.1,hx.2,rfl⟩
 simp only [Instr.makeInterface,Sem.run_bind,run_underlying hd,Result.andThen_ok]
 cases d<;>first|rfl|exact absurd rfl (hni _)
theorem aKa{fn:Fn}{f c:List V}{x y:List Value}(hr:Rel G M h w)(hf:bZ M f x)(hc:bZ M c y)(e:fK fn f c h=.ok r h'):
  Good P G M h w (Instr.makeFunc fn x.toArray y.toArray) r h':=by
 unfold fK at e
 split at e
 ·rename_i hp
  cases e
  exact .same hr (c:=.func fn x.toArray y.toArray) rfl ⟨rfl,fn,x,y,.plain M hp,⟨V.dO f,V.dO c⟩,hf.to,hc.to,rfl⟩
 ·cases e
theorem Loc.Ig(L:Loc)(o n:Nat):(L.at o).add n=L.at (o+n):=by
 unfold Loc.at Addr.add
 split
 ·simp_all
 ·simp [Nat.add_assoc]
theorem avJ{t:TypeId}{fs:Array Field}{n:Nat}{f:Field}{ti:TypeInfo}(ht:P.underlying t=some (.struct fs))(hf:fs[n]?=some f)(hti:P.info? f.type=some ti)(hz:ti.size≠0)
  {x:V} {a:Value} (hr:Rel G M h w) (hx:Rp M x a) (e:aC f.offset x h=.ok r h'):Good P G M h w (Instr.fieldAt t a n) r h':=by
 obtain⟨i,o,rfl,e1⟩:=lU e
 obtain⟨L,hL,rfl⟩:=hx.ptr
 rw [dB] at e1
 cases e1
 refine .same hr (c:=.pointer (some (L.at (o+f.offset)))) ?_ (yF hL _)
 simp [Instr.fieldAt,run_underlying ht,hf,Instr.sureAddr,fieldPlace,sizeOf,typeInfo,hti,hz,Loc.Ig]
theorem aJ5{t el:TypeId}{ti:TypeInfo}(ht:P.underlying t=some (.slice el))(hti:P.info? el=some ti){x i:V}{a b:Value}(hr:Rel G M h w)(hx:Rp M x a)(hi:Rp M i b)(e:bU ti.size x i h=.ok r h'):
  Good P G M h w (Instr.indexAt t a b) r h':=by
 obtain⟨k,n,rfl,e1⟩:=pJ e
 clear e
 cases hi.int
 have e:=e1
 clear e1
 split at e
 ·rename_i i o len cap
  obtain⟨L,m,hL,_,rfl⟩:=hx.slice
  split at e
  ·rename_i hlt
   rw [dB] at e
   cases e
   have hlt':n<len:=by simpa [Nat.blt_eq] using hlt
   refine .same hr (c:=.pointer (some (L.at (o+n*ti.size)))) ?_ (yF hL _)
   simp [Instr.indexAt,asIntOf,run_underlying ht,hlt',sizeOf,typeInfo,hti,Loc.Ig]
  ·cases e
 ·cases e
theorem aJ7{t el:TypeId}{len:Nat}{ti:TypeInfo}(ht:P.underlying t=some (.array len el))(hti:P.info? el=some ti){x i:V}{a b:Value}(hr:Rel G M h w)(hx:Rp M x a)(hi:Rp M i b)(e:ahJ len ti.size x i h=.ok r h'):
  Good P G M h w (Instr.indexAt t a b) r h':=by
 obtain⟨k,n,rfl,e1⟩:=pJ e
 clear e
 cases hi.int
 obtain⟨i,o,rfl,e⟩:=lU e1
 clear e1
 obtain⟨L,hL,rfl⟩:=hx.ptr
 split at e
 ·rename_i hlt
  rw [dB] at e
  cases e
  have hlt':n<len:=by simpa [Nat.blt_eq] using hlt
  refine .same hr (c:=.pointer (some (L.at (o+n*ti.size)))) ?_ (yF hL _)
  simp [Instr.indexAt,asIntOf,run_underlying ht,Instr.sureAddr,hlt',sizeOf,typeInfo,hti,Loc.Ig]
 ·cases e
theorem aE8{t:TypeId}(ht:P.underlying t=some .string){x i:V}{a b:Value}(hr:Rel G M h w)(hx:Rp M x a)(hi:Rp M i b)(e:dG x i h=.ok r h'):
  Good P G M h w (Instr.index t a b) r h':=by
 obtain⟨k,n,rfl,e1⟩:=pJ e
 clear e
 cases hi.int
 have e:=e1
 clear e1
 split at e
 ·rename_i s
  obtain⟨hs,rfl⟩:=hx.str
  split at e
  ·rename_i c hc
   cases e
   rw [aAp] at hc
   have hb:(bts s)[n]?=some (UInt8.ofNat c):=by
    have hlt:n<s.length:=(List.getElem?_eq_some_iff.1 hc).1
    have:(bts s).data[n]?=some (UInt8.ofNat c):=by simp [bts,hc]
    rw [getElem?_pos (bts s) n (by rw [lT];exact hlt)]
    have h2:=(Array.getElem?_eq_some_iff.1 this).2
    exact congrArg some h2
   have hcl:=Ul (hs c (List.mem_of_getElem? hc))
   refine .same hr (c:=.int .u8 (.ofNat c)) ?_ (iq M _ _)
   simp [Instr.index,asIntOf,run_underlying ht,hb,hcl]
  ·cases e
 ·cases e
end
end Go.Vm

namespace Go.Vm
noncomputable section
variable{P:Program}{G:Nat}{M:Mp}{h h':Hp}{w:World}{r:V}
def aa8(n:Nat)(l:List Nat):List Nat:=
 Nat.rec (motive:=fun _=>List Nat→List Nat) (fun l=>l) (fun _ ih l=>List.casesOn l [] (fun _ t=>ih t)) n l
def takeN(n:Nat)(l:List Nat):List Nat:=
 Nat.rec (motive:=fun _=>List Nat→List Nat) (fun _=> []) (fun _ ih l=>List.casesOn l [] (fun a t=>a::ih t)) n l
theorem aa7(n:Nat):∀l:List Nat,aa8 n l=l.drop n:=by
 induction n with
 |zero=>intro l;rfl
 |succ n ih=>intro l;cases l with
  |nil=>rfl
  |cons a t=>exact(ih t).trans (by simp)
theorem aaD(n:Nat):∀l:List Nat,takeN n l=l.take n:=by
 induction n with
 |zero=>intro l;rfl
 |succ n ih=>intro l;cases l with
  |nil=>rfl
  |cons a t=>exact(congrArg (a:: ·) (ih t)).trans (by simp)
def iW(x:Option V)(d:Nat)(k:Nat→R V):R V:=match x with
 |none=>k d
 |some v=>lV v k
def oQ(M:Mp):Option V→Option Value→Prop
 |none,none=>True
 |some v,some c=>Rp M v c
 |_,_=>False
def Uj(y:Option Value)(d n:Nat):Prop:=match y with
 |none=>n=d
 |some c=>∃k,c=.int k (.ofNat n)
theorem oG{x:Option V}{d:Nat}{k:Nat→R V}{y:Option Value}(hx:oQ M x y)(e:iW x d k=.ok r h'):∃n,Uj y d n∧k n=.ok r h':=by
 cases x with
 |none=>cases y with
  |none=>exact⟨d,rfl,e⟩
  |some c=>exact hx.elim
 |some v=>cases y with
  |none=>exact hx.elim
  |some c=>
   obtain⟨k',n,rfl,e1⟩:=pJ e
   exact⟨n,⟨k',Rp.int hx⟩,e1⟩
theorem run_sliceBound{k:IntKind}{n y:Nat}(hn:n≤y)(code:BoundsCode):(Instr.sliceBound (.int k (n:Int)) y code).run P w=.ok n w:=by
 simp [Instr.sliceBound,asIntOf,hn]
theorem lM{isS:Bool}{len cap:Nat}{lo hi mx:Option Value}{m hh l:Nat}(h1:Uj mx cap m)(h2:Uj hi len hh)(h3:Uj lo 0 l)
  (h4:mx=none∨hi≠none) (g1:m≤cap) (g2:hh≤m) (g3:l≤hh):(Instr.sliceBounds isS len cap lo hi mx).run P w=.ok (l,hh,m) w:=by
 unfold Instr.sliceBounds
 cases mx with
 |none=>
  have h1:m=cap:=h1
  subst h1
  cases hi with
  |none=>
   have h2:hh=len:=h2
   subst h2
   cases lo with
   |none=>have h3:l=0:=h3;subst h3;simp
   |some c=>obtain⟨k,rfl⟩:=h3;simp [run_sliceBound g3]
  |some c=>
   obtain⟨k,rfl⟩:=h2
   cases lo with
   |none=>have h3:l=0:=h3;subst h3;simp [run_sliceBound g2]
   |some c=>obtain⟨k,rfl⟩:=h3;simp [run_sliceBound g2,run_sliceBound g3]
 |some c=>
  obtain⟨k,rfl⟩:=h1
  cases hi with
  |none=>rcases h4 with h4|h4<;>simp at h4
  |some c=>
   obtain⟨k,rfl⟩:=h2
   cases lo with
   |none=>have h3:l=0:=h3;subst h3;simp [run_sliceBound g1,run_sliceBound g2]
   |some c=>obtain⟨k,rfl⟩:=h3;simp [run_sliceBound g1,run_sliceBound g2,run_sliceBound g3]
def dZ(x:V)(lo hi:Option V)(h:Hp):R V:=match x with
 | .str s=>iW hi s.length fun hh=>iW lo 0 fun l=>
  (match Nat.ble hh s.length,Nat.ble l hh with
  |true,true=>.ok (.str (takeN (hh - l) (aa8 l s))) h
  |_,_=>.bad)
 |_=>.bad
def moved(sz o l m:Nat):Nat:=match Nat.beq m l with|true=>o|false=>o+l*sz
def atH(mx hi:Option V):Bool:=match mx with
 |none=>true
 |some _=>(match hi with|none=>false|some _=>true)
def YX(sz:Nat)(i:Pos)(o len top:Nat)(lo hi:Option V)(h:Hp)(m:Nat):R V:=
 iW hi len fun hh=>iW lo 0 fun l=>
  match Nat.ble m top,Nat.ble hh m,Nat.ble l hh with
  |true,true,true=>eu (moved sz o l m) fun q=>eu (hh - l) fun n=>.ok (.slice i q n (.kn (m - l))) h
  |_,_,_=>.bad
def ahu(sz:Nat)(i:Pos)(o len u:Nat)(lo hi:Option V)(h:Hp):R V:=
 iW hi len fun hh=>iW lo 0 fun l=>
  match Nat.ble hh len,Nat.ble l hh,Nat.beq u sz with
  |true,true,true=>(match l with
   |0=>.ok (.slice i o hh (.un u)) h
   |l+1=>(match Nat.blt (l+1) len with
    |true=>eu (o+(l+1)*sz) fun q=>eu (hh - (l+1)) fun n=>.ok (.slice i q n (.un u)) h
    |false=>.ok .emp h))
  |_,_,_=>.bad
def Oe(v:V)(lo hi:Option V)(h:Hp)(m:Nat):R V:=
 iW hi 0 fun hh=>iW lo 0 fun l=>match m,hh,l with|0,0,0=>.ok v h|_,_,_=>.bad
def amB(sz:Nat)(x:V)(lo hi mx:Option V)(h:Hp):R V:=
 match x with
 | .slice i o len cap=>(match cap with
  | .kn c=>iW mx c (YX sz i o len c lo hi h)
  | .un u=>(match mx with
   |none=>ahu sz i o len u lo hi h
   |some mv=>lV mv (YX sz i o len len lo hi h)))
 | .aG=>iW mx 0 (Oe .aG lo hi h)
 | .emp=>(match mx with
  |none=>Oe .emp lo hi h 0
  |some _=>.bad)
 |_=>.bad
def eX(sz:Nat)(x:V)(lo hi mx:Option V)(h:Hp):R V:=
 match atH mx hi with
 |true=>amB sz x lo hi mx h
 |false=>.bad
def aaH(sz:Nat)(i:Pos)(o u l hh:Nat)(h:Hp):R V:=
 dQ h i fun _ cs=>(match gB (hh*sz) (fG o cs),Nat.blt l hh,Nat.beq u sz,Nat.beq sz 0 with
  |some _,true,true,false=>eu (o+l*sz) fun q=>eu (hh - l) fun n=>R.ok (.slice i q n (.un u)) h
  |_,_,_,_=>.bad)
def Gp(sz:Nat)(x lo hi:V)(h:Hp):R V:=match x with
 | .slice i o len cap=>(match cap with
  | .kn _=>eX sz x (some lo) (some hi) none h
  | .un u=>lV hi fun hh=>lV lo fun l=>(match Nat.ble hh len with
   |true=>eX sz x (some lo) (some hi) none h
   |false=>aaH sz i o u l hh h))
 |_=>eX sz x (some lo) (some hi) none h
def ahG(sz:Nat)(x:V)(lo hi mx:Option V)(h:Hp):R V:=match mx with
 |some m=>eX sz x lo hi (some m) h
 |none=>(match lo with
  |some l=>(match hi with
   |some hh=>Gp sz x l hh h
   |none=>eX sz x (some l) none none h)
  |none=>eX sz x none hi none h)
def Om(sz len:Nat)(x:V)(lo hi mx:Option V)(h:Hp):R V:=
 match atH mx hi with
 |true=>ug x fun i o=>iW mx len (YX sz i o len len lo hi h)
 |false=>.bad
theorem aiB(s:List Nat)(l hh:Nat):(bts s).extract l hh=bts ((s.drop l).take (hh - l)):=by
 apply ByteArray.ext
 apply Array.ext'
 simp [bts,ByteArray.data_extract,List.map_take,List.map_drop,List.extract_eq_take_drop]
theorem ayU{t:TypeId}(ht:P.underlying t=some .string){x:V}{a:Value}{lo hi:Option V}{clo chi:Option Value}(hr:Rel G M h w)(hx:Rp M x a)(hlo:oQ M lo clo)(hhi:oQ M hi chi)
  (e:dZ x lo hi h=.ok r h'):Good P G M h w (Instr.sliceAt t a clo chi none) r h':=by
 unfold dZ at e
 split at e
 ·rename_i s
  obtain⟨hs,rfl⟩:=hx.str
  obtain⟨hh,b1,e⟩:=oG hhi e
  obtain⟨l,b2,e⟩:=oG hlo e
  split at e
  ·rename_i c1 c2
   cases e
   have c1':hh≤s.length:=Nat.le_of_ble_eq_true c1
   have c2':l≤hh:=Nat.le_of_ble_eq_true c2
   have hb:=lM (P:=P) (w:=w) (isS:=false) (len:=s.length) (cap:=s.length) (mx:=none) (m:=s.length) rfl b1 b2 (.inl rfl) (Nat.le_refl _) c1' c2'
   refine .same hr (c:=.string (bts ((s.drop l).take (hh - l)))) ?_ ?_
   ·simp [Instr.sliceAt,Instr.slice,run_underlying ht,lT,hb,aiB]
   ·rw [aaD,aa7]
    exact Oh fun b hb=>hs b (List.mem_of_mem_drop (List.mem_of_mem_take hb))
  ·cases e
 ·cases e
theorem avi(L:Loc)(sz o l m:Nat):(if m=l then L.at o else(L.at o).add (l*sz))=L.at (moved sz o l m):=by
 unfold moved
 cases hb:Nat.beq m l with
 |true=>rw [if_pos (Nat.eq_of_beq_eq_true hb)]
 |false=>rw [if_neg (Nat.ne_of_beq_eq_false hb),Loc.Ig]
theorem Og{t el:TypeId}{ti:TypeInfo}(ht:P.underlying t=some (.slice el))(hti:P.info? el=some ti){a:Option Addr}{len cap l hh m:Nat}{clo chi cmx:Option Value}
  (hb:(Instr.sliceBounds true len cap clo chi cmx).run P w=.ok (l,hh,m) w):
  (Instr.sliceAt t (.slice a len cap) clo chi cmx).run P w=.ok (.slice (if m=l then a else a.map (·.add (l*ti.size))) (hh - l) (m - l)) w:=by
 simp [Instr.sliceAt,Instr.slice,run_underlying ht,hb,sizeOf,typeInfo,hti]
theorem auU{mx hi:Option V}{cmx chi:Option Value}(hmx:oQ M mx cmx)(hhi:oQ M hi chi)(h:atH mx hi=true):cmx=none∨chi≠none:=by
 cases mx<;>cases hi<;>cases cmx<;>cases chi<;>simp_all [oQ,atH]
theorem aeG{sz:Nat}{i:Pos}{o len top m:Nat}{lo hi:Option V}{clo chi cmx:Option Value}(hlo:oQ M lo clo)(hhi:oQ M hi chi)(h4:cmx=none∨chi≠none)
  {cap:Nat} (b1:Uj cmx cap m) (ht:top≤cap) {isS:Bool} (e:YX sz i o len top lo hi h m=.ok r h'):
  ∃hh l,hh≤m∧(Instr.sliceBounds isS len cap clo chi cmx).run P w=.ok (l,hh,m) w∧h'=h∧r=.slice i (moved sz o l m) (hh - l) (.kn (m - l)):=by
 obtain⟨hh,b2,e⟩:=oG hhi e
 obtain⟨l,b3,e⟩:=oG hlo e
 split at e
 ·rename_i c1 c2 c3
  rw [dB,dB] at e
  cases e
  exact⟨hh,l,Nat.le_of_ble_eq_true c2,lM b1 b2 b3 h4 (Nat.le_trans (Nat.le_of_ble_eq_true c1) ht) (Nat.le_of_ble_eq_true c2) (Nat.le_of_ble_eq_true c3),rfl,rfl⟩
 ·cases e
theorem aeF{v:V}{m:Nat}{lo hi:Option V}{clo chi cmx:Option Value}(hlo:oQ M lo clo)(hhi:oQ M hi chi)(h4:cmx=none∨chi≠none)
  {cap:Nat} (b1:cmx=none∨Uj cmx 0 m) {isS:Bool} (e:Oe v lo hi h m=.ok r h'):
  ∃m',(m'=0∨m'=cap)∧(Instr.sliceBounds isS 0 cap clo chi cmx).run P w=.ok (0,0,m') w∧h'=h∧r=v:=by
 obtain⟨hh,b2,e⟩:=oG hhi e
 obtain⟨l,b3,e⟩:=oG hlo e
 split at e
 ·cases e
  rcases b1 with rfl|b1
  ·exact⟨cap,.inr rfl,lM rfl b2 b3 h4 (Nat.le_refl _) (Nat.zero_le _) (Nat.le_refl _),rfl,rfl⟩
  ·cases cmx with
   |none=>exact⟨cap,.inr rfl,lM rfl b2 b3 h4 (Nat.le_refl _) (Nat.zero_le _) (Nat.le_refl _),rfl,rfl⟩
   |some c=>exact⟨0,.inl rfl,lM b1 b2 b3 h4 (Nat.zero_le _) (Nat.le_refl _) (Nat.le_refl _),rfl,rfl⟩
 ·cases e
theorem aaG{t el:TypeId}{ti:TypeInfo}(ht:P.underlying t=some (.slice el))(hti:P.info? el=some ti){x:V}{a:Value}{lo hi mx:Option V}{clo chi cmx:Option Value}(hr:Rel G M h w)(hx:Rp M x a)
  (hlo:oQ M lo clo) (hhi:oQ M hi chi) (hmx:oQ M mx cmx) (e:eX ti.size x lo hi mx h=.ok r h'):Good P G M h w (Instr.sliceAt t a clo chi cmx) r h':=by
 unfold eX at e
 split at e
 case h_2=>cases e
 rename_i hm
 have h4:=auU hmx hhi hm
 clear hm
 have key:∀{i:Pos} {o len cap hh l m:Nat} {L:Loc},hh≤m→M i=some L→(Instr.sliceBounds true len cap clo chi cmx).run P w=.ok (l,hh,m) w→
   Good P G M h w (Instr.sliceAt t (.slice (some (L.at o)) len cap) clo chi cmx) (.slice i (moved ti.size o l m) (hh - l) (.kn (m - l))) h:=by
  intro i o len cap hh l m L hhm hL hb
  refine .same hr (Og ht hti hb) ?_
  have:=avi L ti.size o l m
  rw [show(if m=l then some (L.at o) else(some (L.at o)).map (·.add (l*ti.size)))=some (L.at (moved ti.size o l m)) from by rw [←this];split<;>rfl]
  exact ji hL ⟨rfl,by omega⟩
 cases x with
 |slice i o len cap=>
  obtain⟨L,k,hL,hcap,rfl⟩:=hx.slice
  cases cap with
  |kn c=>
   have hk:k=c:=hcap.1
   subst hk
   obtain⟨m,b1,e1⟩:=oG hmx e
   obtain⟨hh,l,hhm,hb,rfl,rfl⟩:=aeG (P:=P) (w:=w) (isS:=true) hlo hhi h4 b1 (Nat.le_refl _) e1
   exact key hhm hL hb
  |un u=>
   obtain⟨hk1,hk2⟩:=hcap
   cases mx with
   |none=>
    cases cmx with
    |some _=>exact hmx.elim
    |none=>
    have e:ahu ti.size i o len u lo hi h=.ok r h':=e
    obtain⟨hh,b2,e1⟩:=oG hhi e
    obtain⟨l,b3,e1⟩:=oG hlo e1
    split at e1
    ·rename_i c1 c2 c3
     have c1':=Nat.le_of_ble_eq_true c1
     have c2':=Nat.le_of_ble_eq_true c2
     have c3':u=ti.size:=Nat.eq_of_beq_eq_true c3
     subst c3'
     have hb:=lM (P:=P) (w:=w) (isS:=true) (len:=len) (cap:=k) (mx:=none) (m:=k) rfl b2 b3 (.inl rfl) (Nat.le_refl _) (by omega) c2'
     have hrun:=Og (a:=some (L.at o)) ht hti hb
     cases l with
     |zero=>
      cases e1
      have e0:(if k=0 then some (L.at o) else(some (L.at o)).map (·.add (0*ti.size)))=some (L.at o):=by
       split
       ·rfl
       ·simp [Addr.add]
      rw [e0] at hrun
      exact .same hr hrun (ji hL ⟨by omega,by simpa using hk2⟩)
     |succ l=>
      simp only [] at e1
      split at e1
      ·rename_i c4
       have c4':l+1<len:=by simpa [Nat.blt_eq] using c4
       rw [dB,dB] at e1
       cases e1
       rw [if_neg (by omega)] at hrun
       have e0:(some (L.at o)).map (·.add ((l+1)*ti.size))=some (L.at (o+(l+1)*ti.size)):=by simp [Loc.Ig]
       rw [e0] at hrun
       refine .same hr hrun (ji hL ⟨by omega,?_⟩)
       have e2:(k - (l+1))*ti.size+(l+1)*ti.size=k*ti.size:=by rw [←Nat.add_mul];congr 1;omega
       omega
      ·rename_i c4
       have c4':¬l+1<len:=fun hlt=>by
        have:Nat.blt (l+1) len=true:=by simpa [Nat.blt_eq] using hlt
        rw [this] at c4;cases c4
       cases e1
       have hz:hh - (l+1)=0:=by omega
       rw [hz] at hrun
       refine .same hr hrun ?_
       split
       ·exact⟨rfl,_,_,rfl⟩
       ·exact⟨rfl,_,_,rfl⟩
    ·cases e1
   |some mv=>
    cases cmx with
    |none=>exact hmx.elim
    |some c=>
    obtain⟨k',m,rfl,e1⟩:=pJ e
    have hc:=Rp.int hmx
    obtain⟨hh,l,hhm,hb,rfl,rfl⟩:=aeG (P:=P) (w:=w) (isS:=true) (cap:=k) hlo hhi h4 ⟨k',hc⟩ (by omega) e1
    exact key hhm hL hb
 |aG=>
  cases hx.aG
  obtain⟨m,b1,e1⟩:=oG hmx e
  obtain⟨m',hm',hb,rfl,rfl⟩:=aeF (P:=P) (w:=w) (isS:=true) (cap:=0) hlo hhi h4 (.inr b1) e1
  have hm0:m'=0:=by rcases hm' with h|h<;>exact h
  subst hm0
  exact .same hr (Og ht hti hb) (by simpa using hx)
 |emp=>
  obtain⟨ad,k,rfl⟩:=hx.emp
  cases mx with
  |some _=>cases e
  |none=>
   cases cmx with
   |some _=>exact hmx.elim
   |none=>
   obtain⟨m',hm',hb,rfl,rfl⟩:=aeF (P:=P) (w:=w) (isS:=true) (cap:=k) hlo hhi h4 (.inl rfl) e
   refine .same hr (Og ht hti hb) ?_
   split
   ·exact⟨rfl,_,_,rfl⟩
   ·exact⟨rfl,_,_,rfl⟩
 |_=>cases e
theorem aEF{t el:TypeId}{ti:TypeInfo}(ht:P.underlying t=some (.slice el))(hti:P.info? el=some ti){x:V}{a:Value}{lo hi:V}{clo chi:Value}(hr:Rel G M h w)(hx:Rp M x a)
  (hlo:Rp M lo clo) (hhi:Rp M hi chi) (e:Gp ti.size x lo hi h=.ok r h'):Good P G M h w (Instr.sliceAt t a (some clo) (some chi) none) r h':=by
 have old:eX ti.size x (some lo) (some hi) none h=.ok r h'→Good P G M h w (Instr.sliceAt t a (some clo) (some chi) none) r h':=
  fun e=>aaG ht hti hr hx (lo:=some lo) (hi:=some hi) (mx:=none) hlo hhi trivial e
 cases x with
 |slice i o len cap=>
  cases cap with
  |kn c=>exact old e
  |un u=>
   obtain⟨k1,hh,rfl,e1⟩:=pJ (show lV hi _=_ from e)
   obtain⟨k2,l,rfl,e2⟩:=pJ e1
   split at e2
   ·exact old e2
   ·obtain⟨L,k,hL,hcap,rfl⟩:=hx.slice
    obtain⟨hk1,hk2⟩:=hcap
    unfold aaH dQ at e2
    have hlo':=Rp.int hlo
    have hhi':=Rp.int hhi
    have key:∀{cs:List V} {wr:Wr},(h.get i).bind Ob.row=some (wr,cs)→(match gB (hh*ti.size) (fG o cs),Nat.blt l hh,Nat.beq u ti.size,Nat.beq ti.size 0 with
      |some _,true,true,false=>eu (o+l*ti.size) fun q=>eu (hh - l) fun n=>R.ok (V.slice i q n (.un u)) h
      |_,_,_,_=>.bad)=.ok r h'→Good P G M h w (Instr.sliceAt t (.slice (some (L.at o)) len k) (some clo) (some chi) none) r h':=by
     intro cs wr hrow e3
     split at e3
     ·rename_i l0 hl0 hlt hu hz
      have hlt':l<hh:=by simpa [Nat.blt_eq] using hlt
      have hu':u=ti.size:=Nat.eq_of_beq_eq_true hu
      subst hu'
      have hz':ti.size≠0:=Nat.ne_of_beq_eq_false hz
      rw [dB,dB] at e3
      cases e3
      have hlen:hh*ti.size≤(cs.drop o).length:=by
       rw [jT] at hl0
       exact(Um _ hl0).1
      have hpos:0<hh*ti.size:=Nat.mul_pos (by omega) (by omega)
      rw [List.length_drop] at hlen
      obtain⟨v,hv⟩:∃v,cs[o+(hh*ti.size - 1)]?=some v:=⟨_,List.getElem?_eq_getElem (by omega)⟩
      have hsz:o+(hh*ti.size - 1)+L.off<L.size:=by
       cases hg:h.get i with
       |none=>rw [hg] at hrow;cases hrow
       |some ob=>
        rw [hg] at hrow
        obtain⟨L',hL',ho⟩:=hr.ob i _ hg
        rw [hL] at hL';cases hL'
        cases ob with
        |cells w0 cs0=>
         cases hrow
         obtain⟨c,el',fr,hb,hs,hc,_⟩:=ho
         obtain⟨x,hx,_⟩:=hc _ _ hv
         have:=(Array.getElem?_eq_some_iff.1 hx).1
         omega
        |bytes cs0=>
         cases hrow
         obtain⟨c,el',fr,hb,hs,hc,_⟩:=ho
         obtain⟨x,hx,_⟩:=hc _ _ hv
         have:=(Array.getElem?_eq_some_iff.1 hx).1
         omega
        |map es=>cases hrow
        |iter s p=>cases hrow
      have hhk:hh≤k:=by
       rcases Nat.lt_or_ge k hh with hq|hq
       ·have:k*ti.size+ti.size≤hh*ti.size:=by rw [←Nat.succ_mul];exact Nat.mul_le_mul_right _ hq
        omega
       ·exact hq
      have hb:=lM (P:=P) (w:=w) (isS:=true) (len:=len) (cap:=k) (lo:=some clo) (hi:=some chi) (mx:=none) (m:=k) (hh:=hh) (l:=l) rfl ⟨_,hhi'⟩ ⟨_,hlo'⟩ (.inl rfl) (Nat.le_refl _) hhk (Nat.le_of_lt hlt')
      have hrun:=Og (a:=some (L.at o)) ht hti hb
      rw [if_neg (by omega)] at hrun
      have e0:(some (L.at o)).map (·.add (l*ti.size))=some (L.at (o+l*ti.size)):=by simp [Loc.Ig]
      rw [e0] at hrun
      refine .same hr hrun (ji hL ⟨by omega,?_⟩)
      have e2:(k - l)*ti.size+l*ti.size=k*ti.size:=by rw [←Nat.add_mul];congr 1;omega
      omega
     ·cases e3
    cases hg:h.get i with
    |none=>rw [hg] at e2;cases e2
    |some ob=>
     rw [hg] at e2
     cases ob with
     |cells w0 cs0=>exact key (wr:=w0) (cs:=cs0) (by rw [hg];rfl) e2
     |bytes cs0=>exact key (wr:=.ro) (cs:=cs0) (by rw [hg];rfl) e2
     |map es=>cases e2
     |iter s p=>cases e2
 |_=>exact old e
theorem aEG{t el:TypeId}{ti:TypeInfo}(ht:P.underlying t=some (.slice el))(hti:P.info? el=some ti){x:V}{a:Value}{lo hi mx:Option V}{clo chi cmx:Option Value}(hr:Rel G M h w)(hx:Rp M x a)
  (hlo:oQ M lo clo) (hhi:oQ M hi chi) (hmx:oQ M mx cmx) (e:ahG ti.size x lo hi mx h=.ok r h'):Good P G M h w (Instr.sliceAt t a clo chi cmx) r h':=by
 cases mx with
 |some m=>exact aaG ht hti hr hx hlo hhi hmx e
 |none=>
  cases lo with
  |none=>exact aaG ht hti hr hx hlo hhi hmx e
  |some l=>
   cases hi with
   |none=>exact aaG ht hti hr hx hlo hhi hmx e
   |some hh=>
    cases clo with
    |none=>exact hlo.elim
    |some cl=>
     cases chi with
     |none=>exact hhi.elim
     |some ch=>
      cases cmx with
      |some _=>exact hmx.elim
      |none=>exact aEF ht hti hr hx hlo hhi e
theorem ayW{t el:TypeId}{n:Nat}{ti:TypeInfo}(ht:P.underlying t=some (.array n el))(hti:P.info? el=some ti){x:V}{a:Value}{lo hi mx:Option V}{clo chi cmx:Option Value}(hr:Rel G M h w)(hx:Rp M x a)
  (hlo:oQ M lo clo) (hhi:oQ M hi chi) (hmx:oQ M mx cmx) (e:Om ti.size n x lo hi mx h=.ok r h'):Good P G M h w (Instr.sliceAt t a clo chi cmx) r h':=by
 unfold Om at e
 split at e
 case h_2=>cases e
 rename_i hm
 have h4:=auU hmx hhi hm
 clear hm
 obtain⟨i,o,rfl,e1⟩:=lU e
 obtain⟨L,hL,rfl⟩:=hx.ptr
 obtain⟨m,b1,e1⟩:=oG hmx e1
 obtain⟨hh,l,hhm,hb,rfl,rfl⟩:=aeG (P:=P) (w:=w) (isS:=false) hlo hhi h4 b1 (Nat.le_refl _) e1
 refine .same hr (c:=.slice (some (L.at (moved ti.size o l m))) (hh - l) (m - l)) ?_ (ji hL ⟨rfl,by omega⟩)
 simp [Instr.sliceAt,run_underlying ht,Instr.sureAddr,hb,sizeOf,typeInfo,hti,avi]
end
end Go.Vm
