/- Lemmas that the claim's last text uses. No conditions. -/
import Derived.Test.YtpgppmioigacoaaGreatDoorProg
import Derived.KernelRfl
import Derived.Test.YtpgppmioigacoaaGreatDoorSAH
set_option linter.all false
set_option maxHeartbeats 4000000
set_option maxRecDepth 100000
open Go.Proofs.Tryz renaming prog→a!,f366→c!,f280→d!
open Nat renaming beq→b!
noncomputable section
open Go Go.Proofs Go.Vm Go.Ln
namespace Go.Proofs.Im
theorem aN:a!.follows .mixedOrders=true:=by kernel_rfl
def aJ:Nat:=7
abbrev tB:TypeId:=5
abbrev tS:TypeId:=9
abbrev tW:TypeId:=149
abbrev tG:TypeId:=94
abbrev tP:TypeId:=336
abbrev tR:TypeId:=134
def aNj:Fun:=atU
theorem aPd:aG a! aJ 289 aNj:=aoH Tryz.func289 (by kernel_rfl) (by kernel_rfl) (by kernel_rfl) (by kernel_rfl)
def aMO:F->Hp->Out:=zz
def auK:Fun:=bD a! (kp [0,1,4]) Tryz.f107.ntmps [.tmp 4] aMO
theorem aNb:aG a! aJ 107 auK:=prX aN [0,1] [] bF Tryz.func107
def aMT:F->Hp->Out:=zz
def Yu:Fun:=bD a! (kp [0,1,4]) Tryz.f365.ntmps [.tmp 4] aMT
theorem ami:aG a! aJ 365 Yu:=prX aN [0,1] [] bF Tryz.func365
def aMS:F->Hp->Out:=zz
def amm:Fun:=bD a! (kp [0,1,4,5,9]) Tryz.f352.ntmps [.tmp 4,.tmp 5] aMS
theorem aDx:aG a! aJ 352 amm:=prX aN [0,1,2,3] [] bF Tryz.func352
def aMX:F->Hp->Out:=zz
def amr:Fun:=bD a! (kp [0,1,4]) Tryz.f170.ntmps [.tmp 4] aMX
theorem aDC:aG a! aJ 170 amr:=prX aN [0,1] [] bF Tryz.func170
def aMW:F->Hp->Out:=zz
def amq:Fun:=bD a! (kp [0,2,3,4,5,6,7,8,9,22,38]) Tryz.f171.ntmps [.tmp 2,.tmp 3,.tmp 4,.tmp 5] aMW
theorem aDB:aG a! aJ 171 amq:=prX aN [0,1,2,3,4,5,6,7,8,9] [] bF Tryz.func171
def aMU:F->Hp->Out:=zz
def auP:Fun:=bD a! (kp [0,2]) Tryz.f281.ntmps [.tmp 2] aMU
theorem aNf:aG a! aJ 281 auP:=prX aN [0,1] [] bF Tryz.func281
def aMQ:F->Hp->Out:=zz
def auM:Fun:=bD a! (kp [0,2]) Tryz.f425.ntmps [.tmp 2] aMQ
theorem aNd:aG a! aJ 425 auM:=prX aN [0,1] [] bF Tryz.func425
def aMR:F->Hp->Out:=zz
def MV:Fun:=bD a! (kp [0,1,4,5,15]) Tryz.f367.ntmps [.tmp 4] aMR
theorem aDw:aG a! aJ 367 MV:=prX aN [0,1,2,3,4,5] [] bF Tryz.func367
def aO9:F->Hp->Out:=zz
def aMP:F->Hp->Out:=zz
def auL:Fun:=bD a! (kp [0,2,3,4,5,6,10,26,31,34,49]) Tryz.f426.ntmps [.tmp 2,.tmp 3] aMP
theorem aNc:aG a! aJ 426 auL:=prX aN [0,1,2,3,5,6,8,9,10,11,12,13,14,15,16,7,4,17] [] bF Tryz.func426
def aDp:Nat->Bool:=λt=>J7 t [0,1,4,5,6,7,8,9,10,11,12,13,14,39,50,54,58,99]
def aGg(c:Fun)(fr:F)(h:Hp):Out:=
 aA (fE 149 [(.int .i64 0),(.str []),.aO] h) λa b=>
 Out.nor (ss 5 (.bool false) (ss 4 a fr)) b
def aGf(d:Fun)(fr:F)(h:Hp):Out:=
 gtO (ge 0 fr) λa=>aA (auM [a] h) λb c=>
 Out.nor (ss 14 b fr) c
def aGe(g:Fun)(fr:F)(h:Hp):Out:=
 gtO (ge 0 fr) λa=>aA (aP a (aH 1 h)) λb _=>
 aA (aC 1 b (aH 1 h)) λc _=>
 aA (aF c (aH 1 h)) λd _=>
 gtO (ge 0 fr) λi=>aA (aP i (aH 1 h)) λj _=>
 aA (aC 2 j (aH 1 h)) λm _=>
 aA (aF m (aH 1 h)) λn _=>
 aA (aX 1 d n (aH 1 h)) λo _=>
 aA (aF o (aH 1 h)) λp _=>
 aA (bU [(.int .i64 0),(.str []),.aO] [(0,1,(.int .i64 2)),(1,1,p)] (aH 1 h)) λq _=>
 zU (OB 149 [(.int .i64 0),(.str []),.aO]) λf e=>
 aA (aQ 3 (e (Hp.next h)) q (Hp.put (aH 1 h) (Hp.next h) (some f))) λ_ r=>
 Out.nor (ss 6 (e (Hp.next h)) fr) r
def aGd(e:Fun)(fr:F)(h:Hp):Out:=
 gtO (ge 0 fr) λa=>aA (aP a h) λb c=>
 aA (aC 2 b c) λd i=>
 aA (aF d i) λj m=>
 aA (aI .add .none j (.int .i64 1) m) λn o=>
 aA (aP a o) λp q=>
 aA (aC 2 p q) λr s=>
 aA (aQ 1 r n s) λ_ t=>
 Out.nor fr t
def aGc(e:Fun)(fr:F)(h:Hp):Out:=
 gtO (ge 0 fr) λa=>aA (aP a h) λb c=>
 aA (aC 3 b c) λd i=>
 aA (aQ 1 d (.int .i64 0) i) λ_ j=>
 Out.nor fr j
def aGb(e:Fun)(fr:F)(h:Hp):Out:=
 gtO (ge 6 fr) λa=>aA (bT 3 a h) λb c=>
 gtO (ge 4 fr) λd=>aA (aQ 3 d b c) λ_ i=>
 Out.nor (ss 5 (.bool true) fr) i
def aGa(d:Fun)(fr:F)(h:Hp):Out:=
 gtO (ge 0 fr) λa=>aA (MV [a,(.int .u8 34)] h) λb c=>
 Out.nor (ss 39 b fr) c
def aF9(e:Fun)(fr:F)(h:Hp):Out:=
 gtO (ge 0 fr) λa=>aA (auL [a] h) λb c=>
 aA (bQ 0 b c) λd i=>
 aA (bQ 1 b i) λj m=>
 Out.nor (ss 8 j (ss 7 d fr)) m
def aF8(e:Fun)(fr:F)(h:Hp):Out:=
 gtO (ge 7 fr) λa=>aA (bU [(.int .i64 0),(.str []),.aO] [(0,1,(.int .i64 2)),(1,1,a)] h) λb c=>
 gtO (ge 8 fr) λd=>gtO (ge 4 fr) λi=>aA (aQ 3 i b c) λ_ j=>
 Out.nor (ss 5 d fr) j
def aF7(d:Fun)(fr:F)(h:Hp):Out:=
 gtO (ge 0 fr) λa=>aA (MV [a,(.int .u8 40)] h) λb c=>
 Out.nor (ss 50 b fr) c
def aDm(d:Fun)(fr:F)(h:Hp):Out:=
 gtO (ge 1 fr) λa=>aA (aI .geq .none a (.int .i64 8) h) λb c=>
 Out.nor (ss 54 b fr) c
def aDl(e:Fun)(fr:F)(h:Hp):Out:=
 aA (bU [(.int .i64 0),(.str []),.aO] [] h) λa b=>
 gtO (ge 4 fr) λc=>aA (aQ 3 c a b) λ_ d=>
 Out.nor (ss 5 (.bool false) fr) d
def aDk(e:Fun)(fr:F)(h:Hp):Out:=
 aA (bU [(.int .i64 0),(.str []),.aO] [(0,1,(.int .i64 3))] h) λa b=>
 aA (fE 149 [(.int .i64 0),(.str []),.aO] b) λc d=>
 aA (aQ 3 c a d) λ_ i=>
 Out.nor (ss 9 c fr) i
def aDj(d:Fun)(fr:F)(h:Hp):Out:=
 gtO (ge 0 fr) λa=>aA (MV [a,(.int .u8 41)] h) λb c=>
 Out.nor (ss 58 b fr) c
def aDi(e:Fun)(fr:F)(h:Hp):Out:=
 gtO (ge 9 fr) λa=>aA (bT 3 a h) λb c=>
 gtO (ge 4 fr) λd=>aA (aQ 3 d b c) λ_ i=>
 Out.nor (ss 5 (.bool true) fr) i
def aDh(e:Fun)(fr:F)(h:Hp):Out:=
 gtO (ge 0 fr) λa=>gtO (ge 1 fr) λb=>aA (aI .add .none b (.int .i64 1) h) λc d=>
 aA (e [a,c] d) λi j=>
 aA (bQ 0 i j) λm n=>
 aA (bQ 1 i n) λo p=>
 Out.nor (ss 11 o (ss 10 m fr)) p
def aDg(e:Fun)(fr:F)(h:Hp):Out:=
 gtO (ge 10 fr) λa=>gtO (ge 9 fr) λb=>aA (aC 2 b h) λc d=>
 aA (aQ 1 c a d) λ_ i=>
 Out.nor fr i
def aDf(e:Fun)(fr:F)(h:Hp):Out:=
 gtO (ge 11 fr) λa=>ifB a (gtO (ge 0 fr) λb=>aA (MV [b,(.int .u8 41)] (aH 0 h)) λc d=>
 gtO (ge 9 fr) λi=>aA (bT 3 i d) λj _=>chk (λh=>bT 3 i h) j (
 gtO (ge 4 fr) λm=>aA (aQ 3 m j d) λ_ n=>
 Out.nor (ss 5 c fr) n) 1 [(aH 0 h)]) (gtO (ge 9 fr) λi=>aA (bT 3 i (aH 0 h)) λj _=>chk (λh=>bT 3 i h) j (
 gtO (ge 4 fr) λm=>aA (aQ 3 m j (aH 0 h)) λ_ n=>
 Out.nor (ss 5 (.bool false) fr) n) 1 [(aH 0 h)])
def aDe(d:Fun)(fr:F)(h:Hp):Out:=
 gtO (ge 0 fr) λa=>aA (auP [a] h) λb c=>
 Out.nor (ss 12 b fr) c
def aDd(a:Fun)(fr:F)(h:Hp):Out:=
 Out.nor (ss 13 (.int .i64 0) fr) h
def aDc(e:Fun)(fr:F)(h:Hp):Out:=
 gtO (ge 13 fr) λa=>gtO (ge 12 fr) λb=>aA (aZ 1 b h) λc d=>
 aA (aI .lss .none a c d) λi j=>
 ifB i (aA (kG b a j) λm n=>
 aA (aI .geq .none m (.int .u8 33) n) λo p=>
 ifB o (aA (kG b a p) λq r=>
 aA (aI .leq .none q (.int .u8 126) r) λs t=>
 ifB s (aA (kG b a t) λu v=>
 aA (auK [(.str [40,41,34,123]),u] v) λw x=>
 aA (aI .lss .none w (.int .i64 0) x) λy z=>
 Out.nor (ss 99 y fr) z) (Out.nor (ss 99 (.bool false) fr) t)) (Out.nor (ss 99 (.bool false) fr) p)) (Out.nor (ss 99 (.bool false) fr) j)
def aDb(d:Fun)(fr:F)(h:Hp):Out:=
 gtO (ge 13 fr) λa=>aA (aI .add .none a (.int .i64 1) h) λb c=>
 Out.nor (ss 13 b fr) c
def aDa(e:Fun)(fr:F)(h:Hp):Out:=
 gtO (ge 0 fr) λa=>aA (aP a h) λb c=>
 aA (aC 3 b c) λd i=>
 aA (aF d i) λj m=>
 gtO (ge 13 fr) λn=>aA (aI .add .none j n m) λo p=>
 aA (aP a p) λq r=>
 aA (aC 3 q r) λs t=>
 aA (aQ 1 s o t) λ_ u=>
 Out.nor fr u
def aC9(e:Fun)(fr:F)(h:Hp):Out:=
 gtO (ge 12 fr) λa=>gtO (ge 13 fr) λb=>aA (EO a none (some b) h) λc d=>
 aA (bU [(.int .i64 0),(.str []),.aO] [(0,1,(.int .i64 1)),(1,1,c)] d) λi j=>
 aA (aI .gtr .none b (.int .i64 0) j) λm n=>
 gtO (ge 4 fr) λo=>aA (aQ 3 o i n) λ_ p=>
 Out.nor (ss 5 m fr) p
def aDF(a:Fun):F->Hp->Out:=(aB (aB (aDc a) (aT (.tmp 99) Out.nor (Out.ex 1))) (bG 2 (aDb a)))
def aDt(a:Fun):F->Hp->Out:=(aB (aGg a) (aB (bG 0 (aB (aGf a) (aT (.tmp 14) (aB (aGe a) (aB (aGd a) (aB (aGc a) (aB (aGb a) Out.ret)))) (aB (aGa a) (aT (.tmp 39) (aB (aF9 a) (aB (aF8 a) Out.ret)) (aB (aF7 a) (aT (.tmp 50) (aB (aB (aDm a) (aT (.tmp 54) (aB (aDl a) Out.ret) Out.nor)) (aB (aDk a) (aB (aB (aDj a) (aT (.tmp 58) (aB (aDi a) Out.ret) Out.nor)) (aB (aDh a) (aB (aDg a) (aB (aDf a) Out.ret)))))) Out.nor))))))) (aB (aDe a) (aB (aDd a) (aB (bG 1 (dH (aDF a) lf)) (aB (aDa a) (aB (aC9 a) Out.ret)))))))
def aDr(a:Fun):FuncId->Option Fun:=λf=>match b! f 425 with|true=>some auM|false=>match b! f 367 with|true=>some MV|false=>match b! f 426 with|true=>some auL|false=>match b! f 280 with|true=>some a|false=>match b! f 281 with|true=>some auP|false=>match b! f 107 with|true=>some auK|false=>none
def aDn:bZ:=λid=>match b! id 2 with|true=>some ([0,1,3,7,0,16,48,112,255,511,1023,0,4095],[(0,.pure),(1,.pure),(2,.pure),(3,.read 0),(4,.pure),(5,.pure),(6,.pure),(7,.read 0),(8,.pure),(9,.read 0),(10,.pure),(11,.alloc),(12,.heavy)])|false=>match b! id 17 with|true=>some ([0,0,2,6,14,30,31,127],[(1,.pure),(2,.pure),(3,.pure),(4,.heavy),(0,.read 1),(6,.heavy),(5,.pure),(7,.pure)])|false=>none
def auN(a:Fun):Fun:=dN a! aJ aDp (aDr a) aDn lf c!
theorem aNk(a:Fun):lZ a! aJ c!.ntmps aDp (aDr a) aDn lf (codeOf c!)=(aDt a):=by kernel_rfl
theorem aOq(a:Fun)(x0 x1:V)(h:Hp):(auN a) [x0,x1] h=aU a! [.cell 4 149,.tmp 5] ((aDt a) (T.set (some x1) (Pos.of 1) (T.set (some x0) (Pos.of 0) T.nil)) h):=ayn (by kernel_rfl) (aNk a) (by kernel_rfl) h
theorem aNe(a:Fun)(b:aG a! aJ 280 a):aG a! aJ 366 (auN a):=bP aN (aS aNd (aS aDw (aS aNc (aS b (aS aNf (aS aNb aY)))))) Tryz.func366 (by kernel_rfl)
def aDq:Nat->Bool:=λt=>J7 t [0,1,4,5,6,7,8,16,23]
def aGo(a:Fun)(fr:F)(h:Hp):Out:=
 Out.nor (ss 5 (.bool false) (ss 4 .aO fr)) h
def aGn(a:Fun)(fr:F)(h:Hp):Out:=
 Out.nor (ss 6 .aO fr) h
def aGm(e:Fun)(fr:F)(h:Hp):Out:=
 gtO (ge 0 fr) λa=>gtO (ge 1 fr) λb=>aA (e [a,b] h) λc d=>
 aA (bQ 0 c d) λi j=>
 aA (bQ 1 c j) λm n=>
 aA (fE 149 [(.int .i64 0),(.str []),.aO] n) λo p=>
 aA (aQ 3 o i p) λ_ q=>
 Out.nor (ss 8 m (ss 7 o fr)) q
def aGl(d:Fun)(fr:F)(h:Hp):Out:=
 gtO (ge 8 fr) λa=>aA (oUn .not a h) λb c=>
 Out.nor (ss 16 b fr) c
def aGk(a:Fun)(fr:F)(h:Hp):Out:=
 Out.nor (ss 5 (.bool false) (ss 4 .aO fr)) h
def aGj(e:Fun)(fr:F)(h:Hp):Out:=
 gtO (ge 6 fr) λa=>gtO (ge 7 fr) λb=>aA (bT 3 b h) λc d=>
 aA (bJ 149 [(.int .i64 0),(.str []),.aO] 1 [(0,3,c)] d) λi j=>
 aA (bK 149 3 48 a i j) λm n=>
 Out.nor (ss 6 m fr) n
def aGi(e:Fun)(fr:F)(h:Hp):Out:=
 gtO (ge 0 fr) λa=>aA (MV [a,(.int .u8 32)] h) λb c=>
 aA (oUn .not b c) λd i=>
 Out.nor (ss 23 d fr) i
def aGh(b:Fun)(fr:F)(h:Hp):Out:=
 gtO (ge 6 fr) λa=>Out.nor (ss 5 (.bool true) (ss 4 a fr)) h
def aGv(a:Fun):F->Hp->Out:=(bG 1 (aB (aGm a) (aB (aB (aGl a) (aT (.tmp 16) (aB (aGk a) Out.ret) Out.nor)) (aB (aGj a) (aB (aGi a) (aT (.tmp 23) (aB (aGh a) Out.ret) Out.nor))))))
def aDu(a:Fun):F->Hp->Out:=(aB (aGo a) (aB (aGn a) (bG 0 (dH (aGv a) lf))))
def aDs(a:Fun):FuncId->Option Fun:=λf=>match b! f 366 with|true=>some a|false=>match b! f 367 with|true=>some MV|false=>none
def aDo:bZ:=λid=>none
def amn(a:Fun):Fun:=dN a! aJ aDq (aDs a) aDo lf d!
theorem aNl(a:Fun):lZ a! aJ d!.ntmps aDq (aDs a) aDo lf (codeOf d!)=(aDu a):=by kernel_rfl
theorem aOr(a:Fun)(x0 x1:V)(h:Hp):(amn a) [x0,x1] h=aU a! [.tmp 4,.tmp 5] ((aDu a) (T.set (some x1) (Pos.of 1) (T.set (some x0) (Pos.of 0) T.nil)) h):=ayn (by kernel_rfl) (aNl a) (by kernel_rfl) h
theorem aDz(a:Fun)(b:aG a! aJ 366 a):aG a! aJ 280 (amn a):=bP aN (aS b (aS aDw aY)) Tryz.func280 (by kernel_rfl)
def aGw:Nat->Fun
 |0=>λ_ _=>.bad
 |n+1=>auN (amn (aGw n))
theorem ayY:∀n,aG a! aJ 366 (aGw n)
 |0=>λ_ _ _ _ _ _ _ e=>by cases e
 |n+1=>aNe _ (aDz _ (ayY n))
def aK8:Fun:=amn (aGw 20)
theorem aPc:aG a! aJ 280 aK8:=aDz _ (ayY 20)
def aPa:F->Hp->Out:=zz
def aMV:F->Hp->Out:=zz
def amo:Fun:=bD a! (kp [0,1,4,5,6,7,8,9,10,12,13,14,45]) Tryz.f172.ntmps [.tmp 4,.tmp 5] aMV
theorem aDA:aG a! aJ 172 amo:=prX aN [0,1,2,3,4,5,6,7,8,9,10] [] bF Tryz.func172
def aMY:F->Hp->Out:=zz
def ams:Fun:=bD a! (kp [0,2]) Tryz.f40.ntmps [.tmp 2] aMY
theorem aDE:aG a! aJ 40 ams:=prX aN [0,1] [] bF Tryz.func40
end Go.Proofs.Im
namespace Go.Ln
open Go.Proofs.Im
def Wds.app:Wds->Wds->Wds
 | .nil,b=>b
 | .cons k t ks r,b=>.cons k t ks (r.app b)
def WAt(P:Pos->Prop)(h:Hp):Wds->List V->Prop
 | .nil,cs=>cs= []
 | .cons k t ks r,cs=>∃vk a cr,cs= [.int .i64 k,.str t,vk]++cr/\Ow 0 h tW 3 vk ks.len a/\(∀j,bC vk=some j->P j)/\WAt P h ks a/\WAt P h r cr
def Tj(P:Pos->Prop)(h:Hp)(v:V)(ws:Wds):Prop:=∃cs,Ow 0 h tW 3 v ws.len cs/\(∀j,bC v=some j->P j)/\WAt P h ws cs
theorem WAt.ch{P P' S:Pos->Prop}{h h':Hp}(c:Ch S h h')(f:∀j:Pos,j.nat<h.next.nat->P j->P' j/\¬S j):∀{ws:Wds} {cs:List V},WAt P h ws cs->WAt P' h' ws cs
 | .nil,_,w=>w
 | .cons k t ks r,_,⟨vk,g,cr,e,o,p,a,b⟩=>⟨vk,g,cr,e,o.ch c λj d=>(f j (o.eY d).2 (p j d)).2,λj d=>(f j (o.eY d).2 (p j d)).1,WAt.ch c f a,WAt.ch c f b⟩
theorem Tj.ch{P P' S:Pos->Prop}{h h':Hp}{v:V}{ws:Wds}(w:Tj P h v ws)(c:Ch S h h')(d:∀j:Pos,j.nat<h.next.nat->P j->P' j/\¬S j):Tj P' h' v ws:=by
 obtain⟨cs,o,p,a⟩:=w;exact⟨cs,o.ch c λj b=>(d j (o.eY b).2 (p j b)).2,λj b=>(d j (o.eY b).2 (p j b)).1,a.ch c d⟩
end Go.Ln
namespace Go.Vm
structure Stp (S:Pos->Prop) (h:Hp) (S':Pos->Prop) (h':Hp):Prop where
 ch:Ch S h h'
 sub:∀j,S' j->S j\/h.next.nat<=j.nat
theorem Stp.refl(S:Pos->Prop)(h:Hp):Stp S h S h:=⟨Ch.refl _ _,λ_ q=>.inl q⟩
theorem Stp.trans{S a b:Pos->Prop}{h c d:Hp}(x:Stp S h a c)(y:Stp a c b d):Stp S h b d:=
 ⟨x.ch.trans y.ch λj e q=>(x.sub j q).resolve_right (by omega),λj q=>(y.sub j q).elim (λq=>x.sub j q) λq=>.inr (Nat.le_trans x.ch.next q)⟩
theorem Stp.step{S a C:Pos->Prop}{h b d:Hp}(x:Stp S h a b)(c:Ch C b d)(e:∀j,C j->a j):Stp S h a d:=x.trans ⟨c.mono λj _ q=>e j q,λ_ q=>.inl q⟩
end Go.Vm
namespace Go.Proofs.Im
def GAt(P:Pos->Prop)(h:Hp):List Ln.Got->List V->Prop
 | [],cs=>cs= []
 |g::l,cs=>∃vw cr,cs= [.int .i64 g.kind,vw]++cr/\Tj P h vw g.words/\GAt P h l cr
theorem GAt.ch{P P' S:Pos->Prop}{h h':Hp}(c:Ch S h h')(d:∀j:Pos,j.nat<h.next.nat->P j->P' j/\¬S j):∀{l:List Ln.Got} {cs:List V},GAt P h l cs->GAt P' h' l cs
 | [],_,w=>w
 |g::l,_,⟨vw,cr,e,a,b⟩=>⟨vw,cr,e,a.ch c d,GAt.ch c d b⟩
end Go.Proofs.Im
namespace Go.Ln
def Wds.get?:Wds->Nat->Option Wd
 | .nil,_=>none
 | .cons k t ks _,0=>some ⟨k,t,ks⟩
 | .cons _ _ _ r,n+1=>r.get? n
theorem Wds.Kq:∀{ws:Wds} {k:Nat} {w:Wd},ws.get? k=some w->k<ws.len
 | .nil,_,_,h=>by cases h
 | .cons _ _ _ _,0,_,_=>by simp[Wds.len]
 | .cons _ _ _ r,n+1,w,h=>by have:=Wds.Kq (ws:=r) h;simp only[Wds.len];omega
end Go.Ln
namespace Go.Proofs.Im
def Told(P:Pos->Prop)(h:Hp)(v:V)(gs:List Ln.Got):Prop:=∃cs,Ow 0 h tG 2 v gs.length cs/\(∀j,bC v=some j->P j)/\GAt P h gs cs
theorem Told.ch{P P' S:Pos->Prop}{h h':Hp}{v:V}{gs:List Ln.Got}(t:Told P h v gs)(c:Ch S h h')(b:∀j:Pos,j.nat<h.next.nat->P j->P' j/\¬S j):Told P' h' v gs:=by
 obtain⟨cs,o,i,w⟩:=t;exact⟨cs,o.ch c λj a=>(b j (o.eY a).2 (i j a)).2,λj a=>(b j (o.eY a).2 (i j a)).1,w.ch c b⟩
theorem Told.len{P:Pos->Prop}{h:Hp}{v:V}{gs:List Ln.Got}(t:Told P h v gs)(h':Hp):aZ 2 v h'=.ok (.int .i64 (gs.length:Int)) h':=by
 obtain⟨cs,o,i,w⟩:=t;exact o.sl.length
theorem GAt.get{P:Pos->Prop}{h:Hp}:∀{gs:List Ln.Got} {cs:List V} {k:Nat} {g:Ln.Got},GAt P h gs cs->gs[k]?=some g->cs[k*2]?=some (.int .i64 g.kind)/\∃vw,cs[k*2+1]?=some vw/\Tj P h vw g.words
 | [],_,k,g,_,e=>by cases e
 |a::l,_,0,g,⟨vw,cr,e1,w,r⟩,e=>by
  cases e;subst e1;exact⟨rfl,vw,rfl,w⟩
 |a::l,_,k+1,g,⟨vw,cr,e1,w,r⟩,e=>by
  subst e1;have:=GAt.get (k:=k) r e;rw[show(k+1)*2=k*2+2 by omega];exact this
theorem WAt.get{P:Pos->Prop}{h:Hp}:∀{ws:Wds} {cs:List V} {k:Nat} {w:Wd},WAt P h ws cs->ws.get? k=some w->cs[k*3]?=some (.int .i64 w.kind)/\cs[k*3+1]?=some (.str w.text)/\∃vk,cs[k*3+2]?=some vk/\Tj P h vk w.kids
 | .nil,_,k,w,_,e=>by cases e
 | .cons _ _ _ _,_,0,w,⟨vk,a,cr,e1,o,p,x,r⟩,e=>by
  cases e;subst e1;exact⟨rfl,rfl,vk,rfl,a,o,p,x⟩
 | .cons _ _ _ l,_,k+1,w,⟨vk,a,cr,e1,o,p,x,r⟩,e=>by
  subst e1;have:=WAt.get (k:=k) r e;rw[show(k+1)*3=k*3+3 by omega];exact this
end Go.Proofs.Im
