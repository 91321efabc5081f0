/- Lemmas that the claim's last text uses. No conditions. -/
import Derived.Test.YtpgppmioigacoaaGreatDoorProg
import Derived.KernelRfl
import Derived.Test.YtpgppmioigacoaaGreatDoorDrAH
set_option linter.all false
set_option maxHeartbeats 4000000
set_option maxRecDepth 100000
open Go.Proofs.Tryz renaming prog→a!,f366→c!,f280→d!
open Nat renaming beq→b!
noncomputable section
open Go Go.Proofs Go.Vm Go.Ln
namespace Go.Proofs.Im
theorem aO:a!.follows .mixedOrders=true:=by kernel_rfl
def aH:Nat:=7
abbrev tB:TypeId:=5
abbrev tS:TypeId:=9
abbrev tW:TypeId:=149
abbrev tG:TypeId:=94
abbrev tP:TypeId:=336
abbrev tR:TypeId:=134
def aJV:Fun:=aqX
theorem aLk:aG a! aH 289 aJV:=al9 Tryz.func289 (by kernel_rfl) (by kernel_rfl) (by kernel_rfl) (by kernel_rfl)
def aJq:F->Hp->Out:=zz
def arJ:Fun:=bC a! (kp [0,1,4]) Tryz.f107.ntmps [.tmp 4] aJq
theorem aJN:aG a! aH 107 arJ:=prX aO [0,1] [] bF Tryz.func107
def aJv:F->Hp->Out:=zz
def Wl:Fun:=bC a! (kp [0,1,4]) Tryz.f365.ntmps [.tmp 4] aJv
theorem ajO:aG a! aH 365 Wl:=prX aO [0,1] [] bF Tryz.func365
def aJu:F->Hp->Out:=zz
def ajS:Fun:=bC a! (kp [0,1,4,5,9]) Tryz.f352.ntmps [.tmp 4,.tmp 5] aJu
theorem aAk:aG a! aH 352 ajS:=prX aO [0,1,2,3] [] bF Tryz.func352
def aJz:F->Hp->Out:=zz
def ajW:Fun:=bC a! (kp [0,1,4]) Tryz.f170.ntmps [.tmp 4] aJz
theorem aAp:aG a! aH 170 ajW:=prX aO [0,1] [] bF Tryz.func170
def aJy:F->Hp->Out:=zz
def ajV:Fun:=bC a! (kp [0,2,3,4,5,6,7,8,9,22,38]) Tryz.f171.ntmps [.tmp 2,.tmp 3,.tmp 4,.tmp 5] aJy
theorem aAo:aG a! aH 171 ajV:=prX aO [0,1,2,3,4,5,6,7,8,9] [] bF Tryz.func171
def aJw:F->Hp->Out:=zz
def arO:Fun:=bC a! (kp [0,2]) Tryz.f281.ntmps [.tmp 2] aJw
theorem aJR:aG a! aH 281 arO:=prX aO [0,1] [] bF Tryz.func281
def aJs:F->Hp->Out:=zz
def arL:Fun:=bC a! (kp [0,2]) Tryz.f425.ntmps [.tmp 2] aJs
theorem aJP:aG a! aH 425 arL:=prX aO [0,1] [] bF Tryz.func425
def aJt:F->Hp->Out:=zz
def KZ:Fun:=bC a! (kp [0,1,4,5,15]) Tryz.f367.ntmps [.tmp 4] aJt
theorem aAj:aG a! aH 367 KZ:=prX aO [0,1,2,3,4,5] [] bF Tryz.func367
def aLg:F->Hp->Out:=zz
def aJr:F->Hp->Out:=zz
def arK:Fun:=bC a! (kp [0,2,3,4,5,6,10,26,31,34,49]) Tryz.f426.ntmps [.tmp 2,.tmp 3] aJr
theorem aJO:aG a! aH 426 arK:=prX aO [0,1,2,3,5,6,8,9,10,11,12,13,14,15,16,7,4,17] [] bF Tryz.func426
def aAc:Nat->Bool:=λt=>Je t [0,1,4,5,6,7,8,9,10,11,12,13,14,39,50,54,58,99]
def aCW(c:Fun)(fr:F)(h:Hp):Out:=
 aA (fC 149 [(.int .i64 0),(.str []),.aQ] h) λa b=>
 Out.nor (ss 5 (.bool false) (ss 4 a fr)) b
def aCV(d:Fun)(fr:F)(h:Hp):Out:=
 gtO (ge 0 fr) λa=>aA (arL [a] h) λb c=>
 Out.nor (ss 14 b fr) c
def aCU(g:Fun)(fr:F)(h:Hp):Out:=
 gtO (ge 0 fr) λa=>aA (aN a (aI 1 h)) λb _=>
 aA (aC 1 b (aI 1 h)) λc _=>
 aA (aF c (aI 1 h)) λd _=>
 gtO (ge 0 fr) λi=>aA (aN i (aI 1 h)) λj _=>
 aA (aC 2 j (aI 1 h)) λm _=>
 aA (aF m (aI 1 h)) λn _=>
 aA (bJ 1 d n (aI 1 h)) λo _=>
 aA (aF o (aI 1 h)) λp _=>
 aA (bQ [(.int .i64 0),(.str []),.aQ] [(0,1,(.int .i64 2)),(1,1,p)] (aI 1 h)) λq _=>
 FQ (YV 149 [(.int .i64 0),(.str []),.aQ]) λf e=>
 aA (aT 3 (e (Hp.next h)) q (Hp.put (aI 1 h) (Hp.next h) (some f))) λ_ r=>
 Out.nor (ss 6 (e (Hp.next h)) fr) r
def aCT(e:Fun)(fr:F)(h:Hp):Out:=
 gtO (ge 0 fr) λa=>aA (aN a h) λb c=>
 aA (aC 2 b c) λd i=>
 aA (aF d i) λj m=>
 aA (aJ .add .none j (.int .i64 1) m) λn o=>
 aA (aN a o) λp q=>
 aA (aC 2 p q) λr s=>
 aA (aT 1 r n s) λ_ t=>
 Out.nor fr t
def aCS(e:Fun)(fr:F)(h:Hp):Out:=
 gtO (ge 0 fr) λa=>aA (aN a h) λb c=>
 aA (aC 3 b c) λd i=>
 aA (aT 1 d (.int .i64 0) i) λ_ j=>
 Out.nor fr j
def aCR(e:Fun)(fr:F)(h:Hp):Out:=
 gtO (ge 6 fr) λa=>aA (bT 3 a h) λb c=>
 gtO (ge 4 fr) λd=>aA (aT 3 d b c) λ_ i=>
 Out.nor (ss 5 (.bool true) fr) i
def aCQ(d:Fun)(fr:F)(h:Hp):Out:=
 gtO (ge 0 fr) λa=>aA (KZ [a,(.int .u8 34)] h) λb c=>
 Out.nor (ss 39 b fr) c
def aCP(e:Fun)(fr:F)(h:Hp):Out:=
 gtO (ge 0 fr) λa=>aA (arK [a] h) λb c=>
 aA (dA 0 b c) λd i=>
 aA (dA 1 b i) λj m=>
 Out.nor (ss 8 j (ss 7 d fr)) m
def aCO(e:Fun)(fr:F)(h:Hp):Out:=
 gtO (ge 7 fr) λa=>aA (bQ [(.int .i64 0),(.str []),.aQ] [(0,1,(.int .i64 2)),(1,1,a)] h) λb c=>
 gtO (ge 8 fr) λd=>gtO (ge 4 fr) λi=>aA (aT 3 i b c) λ_ j=>
 Out.nor (ss 5 d fr) j
def aCN(d:Fun)(fr:F)(h:Hp):Out:=
 gtO (ge 0 fr) λa=>aA (KZ [a,(.int .u8 40)] h) λb c=>
 Out.nor (ss 50 b fr) c
def az9(d:Fun)(fr:F)(h:Hp):Out:=
 gtO (ge 1 fr) λa=>aA (aJ .geq .none a (.int .i64 8) h) λb c=>
 Out.nor (ss 54 b fr) c
def az8(e:Fun)(fr:F)(h:Hp):Out:=
 aA (bQ [(.int .i64 0),(.str []),.aQ] [] h) λa b=>
 gtO (ge 4 fr) λc=>aA (aT 3 c a b) λ_ d=>
 Out.nor (ss 5 (.bool false) fr) d
def az7(e:Fun)(fr:F)(h:Hp):Out:=
 aA (bQ [(.int .i64 0),(.str []),.aQ] [(0,1,(.int .i64 3))] h) λa b=>
 aA (fC 149 [(.int .i64 0),(.str []),.aQ] b) λc d=>
 aA (aT 3 c a d) λ_ i=>
 Out.nor (ss 9 c fr) i
def az6(d:Fun)(fr:F)(h:Hp):Out:=
 gtO (ge 0 fr) λa=>aA (KZ [a,(.int .u8 41)] h) λb c=>
 Out.nor (ss 58 b fr) c
def az5(e:Fun)(fr:F)(h:Hp):Out:=
 gtO (ge 9 fr) λa=>aA (bT 3 a h) λb c=>
 gtO (ge 4 fr) λd=>aA (aT 3 d b c) λ_ i=>
 Out.nor (ss 5 (.bool true) fr) i
def az4(e:Fun)(fr:F)(h:Hp):Out:=
 gtO (ge 0 fr) λa=>gtO (ge 1 fr) λb=>aA (aJ .add .none b (.int .i64 1) h) λc d=>
 aA (e [a,c] d) λi j=>
 aA (dA 0 i j) λm n=>
 aA (dA 1 i n) λo p=>
 Out.nor (ss 11 o (ss 10 m fr)) p
def az3(e:Fun)(fr:F)(h:Hp):Out:=
 gtO (ge 10 fr) λa=>gtO (ge 9 fr) λb=>aA (aC 2 b h) λc d=>
 aA (aT 1 c a d) λ_ i=>
 Out.nor fr i
def az2(e:Fun)(fr:F)(h:Hp):Out:=
 gtO (ge 11 fr) λa=>ifB a (gtO (ge 0 fr) λb=>aA (KZ [b,(.int .u8 41)] (aI 0 h)) λc d=>
 gtO (ge 9 fr) λi=>aA (bT 3 i d) λj _=>chk (λh=>bT 3 i h) j (
 gtO (ge 4 fr) λm=>aA (aT 3 m j d) λ_ n=>
 Out.nor (ss 5 c fr) n) 1 [(aI 0 h)]) (gtO (ge 9 fr) λi=>aA (bT 3 i (aI 0 h)) λj _=>chk (λh=>bT 3 i h) j (
 gtO (ge 4 fr) λm=>aA (aT 3 m j (aI 0 h)) λ_ n=>
 Out.nor (ss 5 (.bool false) fr) n) 1 [(aI 0 h)])
def az1(d:Fun)(fr:F)(h:Hp):Out:=
 gtO (ge 0 fr) λa=>aA (arO [a] h) λb c=>
 Out.nor (ss 12 b fr) c
def az0(a:Fun)(fr:F)(h:Hp):Out:=
 Out.nor (ss 13 (.int .i64 0) fr) h
def azZ(e:Fun)(fr:F)(h:Hp):Out:=
 gtO (ge 13 fr) λa=>gtO (ge 12 fr) λb=>aA (aZ 1 b h) λc d=>
 aA (aJ .lss .none a c d) λi j=>
 ifB i (aA (mX b a j) λm n=>
 aA (aJ .geq .none m (.int .u8 33) n) λo p=>
 ifB o (aA (mX b a p) λq r=>
 aA (aJ .leq .none q (.int .u8 126) r) λs t=>
 ifB s (aA (mX b a t) λu v=>
 aA (arJ [(.str [40,41,34,123]),u] v) λw x=>
 aA (aJ .lss .none w (.int .i64 0) x) λy z=>
 Out.nor (ss 99 y fr) z) (Out.nor (ss 99 (.bool false) fr) t)) (Out.nor (ss 99 (.bool false) fr) p)) (Out.nor (ss 99 (.bool false) fr) j)
def azY(d:Fun)(fr:F)(h:Hp):Out:=
 gtO (ge 13 fr) λa=>aA (aJ .add .none a (.int .i64 1) h) λb c=>
 Out.nor (ss 13 b fr) c
def azX(e:Fun)(fr:F)(h:Hp):Out:=
 gtO (ge 0 fr) λa=>aA (aN a h) λb c=>
 aA (aC 3 b c) λd i=>
 aA (aF d i) λj m=>
 gtO (ge 13 fr) λn=>aA (aJ .add .none j n m) λo p=>
 aA (aN a p) λq r=>
 aA (aC 3 q r) λs t=>
 aA (aT 1 s o t) λ_ u=>
 Out.nor fr u
def azW(e:Fun)(fr:F)(h:Hp):Out:=
 gtO (ge 12 fr) λa=>gtO (ge 13 fr) λb=>aA (Ei a none (some b) h) λc d=>
 aA (bQ [(.int .i64 0),(.str []),.aQ] [(0,1,(.int .i64 1)),(1,1,c)] d) λi j=>
 aA (aJ .gtr .none b (.int .i64 0) j) λm n=>
 gtO (ge 4 fr) λo=>aA (aT 3 o i n) λ_ p=>
 Out.nor (ss 5 m fr) p
def aAr(a:Fun):F->Hp->Out:=(aB (aB (azZ a) (aV (.tmp 99) Out.nor (Out.ex 1))) (bK 2 (azY a)))
def aAg(a:Fun):F->Hp->Out:=(aB (aCW a) (aB (bK 0 (aB (aCV a) (aV (.tmp 14) (aB (aCU a) (aB (aCT a) (aB (aCS a) (aB (aCR a) Out.ret)))) (aB (aCQ a) (aV (.tmp 39) (aB (aCP a) (aB (aCO a) Out.ret)) (aB (aCN a) (aV (.tmp 50) (aB (aB (az9 a) (aV (.tmp 54) (aB (az8 a) Out.ret) Out.nor)) (aB (az7 a) (aB (aB (az6 a) (aV (.tmp 58) (aB (az5 a) Out.ret) Out.nor)) (aB (az4 a) (aB (az3 a) (aB (az2 a) Out.ret)))))) Out.nor))))))) (aB (az1 a) (aB (az0 a) (aB (bK 1 (dI (aAr a) lf)) (aB (azX a) (aB (azW a) Out.ret)))))))
def aAe(a:Fun):FuncId->Option Fun:=λf=>match b! f 425 with|true=>some arL|false=>match b! f 367 with|true=>some KZ|false=>match b! f 426 with|true=>some arK|false=>match b! f 280 with|true=>some a|false=>match b! f 281 with|true=>some arO|false=>match b! f 107 with|true=>some arJ|false=>none
def aAa:bV:=λid=>match b! id 2 with|true=>some ([0,1,3,7,0,16,48,112,255,511,1023,0,4095],[(0,.pure),(1,.pure),(2,.pure),(3,.read 0),(4,.pure),(5,.pure),(6,.pure),(7,.read 0),(8,.pure),(9,.read 0),(10,.pure),(11,.alloc),(12,.heavy)])|false=>match b! id 17 with|true=>some ([0,0,2,6,14,30,31,127],[(1,.pure),(2,.pure),(3,.pure),(4,.heavy),(0,.read 1),(6,.heavy),(5,.pure),(7,.pure)])|false=>none
def arM(a:Fun):Fun:=dL a! aH aAc (aAe a) aAa lf c!
theorem aJW(a:Fun):kV a! aH c!.ntmps aAc (aAe a) aAa lf (codeOf c!)=(aAg a):=by kernel_rfl
theorem aKM(a:Fun)(b c:V)(h:Hp):(arM a) [b,c] h=aU a! [.cell 4 149,.tmp 5] ((aAg a) (T.set (some c) (Pos.of 1) (T.set (some b) (Pos.of 0) T.nil)) h):=avf (by kernel_rfl) (aJW a) (by kernel_rfl) h
theorem aJQ(a:Fun)(b:aG a! aH 280 a):aG a! aH 366 (arM a):=bI aO (aS aJP (aS aAj (aS aJO (aS b (aS aJR (aS aJN aY)))))) Tryz.func366 (by kernel_rfl)
def aAd:Nat->Bool:=λt=>Je t [0,1,4,5,6,7,8,16,23]
def aC4(a:Fun)(fr:F)(h:Hp):Out:=
 Out.nor (ss 5 (.bool false) (ss 4 .aQ fr)) h
def aC3(a:Fun)(fr:F)(h:Hp):Out:=
 Out.nor (ss 6 .aQ fr) h
def aC2(e:Fun)(fr:F)(h:Hp):Out:=
 gtO (ge 0 fr) λa=>gtO (ge 1 fr) λb=>aA (e [a,b] h) λc d=>
 aA (dA 0 c d) λi j=>
 aA (dA 1 c j) λm n=>
 aA (fC 149 [(.int .i64 0),(.str []),.aQ] n) λo p=>
 aA (aT 3 o i p) λ_ q=>
 Out.nor (ss 8 m (ss 7 o fr)) q
def aC1(d:Fun)(fr:F)(h:Hp):Out:=
 gtO (ge 8 fr) λa=>aA (oUn .not a h) λb c=>
 Out.nor (ss 16 b fr) c
def aC0(a:Fun)(fr:F)(h:Hp):Out:=
 Out.nor (ss 5 (.bool false) (ss 4 .aQ fr)) h
def aCZ(e:Fun)(fr:F)(h:Hp):Out:=
 gtO (ge 6 fr) λa=>gtO (ge 7 fr) λb=>aA (bT 3 b h) λc d=>
 aA (bY 149 [(.int .i64 0),(.str []),.aQ] 1 [(0,3,c)] d) λi j=>
 aA (cZ 149 3 48 a i j) λm n=>
 Out.nor (ss 6 m fr) n
def aCY(e:Fun)(fr:F)(h:Hp):Out:=
 gtO (ge 0 fr) λa=>aA (KZ [a,(.int .u8 32)] h) λb c=>
 aA (oUn .not b c) λd i=>
 Out.nor (ss 23 d fr) i
def aCX(b:Fun)(fr:F)(h:Hp):Out:=
 gtO (ge 6 fr) λa=>Out.nor (ss 5 (.bool true) (ss 4 a fr)) h
def aC9(a:Fun):F->Hp->Out:=(bK 1 (aB (aC2 a) (aB (aB (aC1 a) (aV (.tmp 16) (aB (aC0 a) Out.ret) Out.nor)) (aB (aCZ a) (aB (aCY a) (aV (.tmp 23) (aB (aCX a) Out.ret) Out.nor))))))
def aAh(a:Fun):F->Hp->Out:=(aB (aC4 a) (aB (aC3 a) (bK 0 (dI (aC9 a) lf))))
def aAf(a:Fun):FuncId->Option Fun:=λf=>match b! f 366 with|true=>some a|false=>match b! f 367 with|true=>some KZ|false=>none
def aAb:bV:=λid=>none
def ajT(a:Fun):Fun:=dL a! aH aAd (aAf a) aAb lf d!
theorem aJX(a:Fun):kV a! aH d!.ntmps aAd (aAf a) aAb lf (codeOf d!)=(aAh a):=by kernel_rfl
theorem aKN(a:Fun)(b c:V)(h:Hp):(ajT a) [b,c] h=aU a! [.tmp 4,.tmp 5] ((aAh a) (T.set (some c) (Pos.of 1) (T.set (some b) (Pos.of 0) T.nil)) h):=avf (by kernel_rfl) (aJX a) (by kernel_rfl) h
theorem aAm(a:Fun)(b:aG a! aH 366 a):aG a! aH 280 (ajT a):=bI aO (aS b (aS aAj aY)) Tryz.func280 (by kernel_rfl)
def aDa:Nat->Fun
 |0=>λ_ _=>.bad
 |n+1=>arM (ajT (aDa n))
theorem avQ:∀n,aG a! aH 366 (aDa n)
 |0=>λ_ _ _ _ _ _ _ e=>by cases e
 |n+1=>aJQ _ (aAm _ (avQ n))
def aHH:Fun:=ajT (aDa 20)
theorem aLj:aG a! aH 280 aHH:=aAm _ (avQ 20)
def aLh:F->Hp->Out:=zz
def aJx:F->Hp->Out:=zz
def ajU:Fun:=bC a! (kp [0,1,4,5,6,7,8,9,10,12,13,14,45]) Tryz.f172.ntmps [.tmp 4,.tmp 5] aJx
theorem aAn:aG a! aH 172 ajU:=prX aO [0,1,2,3,4,5,6,7,8,9,10] [] bF Tryz.func172
def aJA:F->Hp->Out:=zz
def ajX:Fun:=bC a! (kp [0,2]) Tryz.f40.ntmps [.tmp 2] aJA
theorem aAq:aG a! aH 40 ajX:=prX aO [0,1] [] bF Tryz.func40
end Go.Proofs.Im
namespace Go.Ln
open Go.Proofs.Im
def Wds.app:Wds->Wds->Wds
 | .nil,b=>b
 | .cons k t ks r,b=>.cons k t ks (r.app b)
def WAt(P:Pos->Prop)(h:Hp):Wds->List V->Prop
 | .nil,cs=>cs= []
 | .cons k t ks r,cs=>∃vk a cr,cs= [.int .i64 k,.str t,vk]++cr/\Ow 0 h tW 3 vk ks.len a/\(∀j,bH vk=some j->P j)/\WAt P h ks a/\WAt P h r cr
def QT(P:Pos->Prop)(h:Hp)(v:V)(ws:Wds):Prop:=∃cs,Ow 0 h tW 3 v ws.len cs/\(∀j,bH v=some j->P j)/\WAt P h ws cs
theorem WAt.ch{P P' S:Pos->Prop}{h h':Hp}(c:Ch S h h')(f:∀j:Pos,j.nat<h.next.nat->P j->P' j/\¬S j):∀{ws:Wds} {cs:List V},WAt P h ws cs->WAt P' h' ws cs
 | .nil,_,w=>w
 | .cons k t ks r,_,⟨vk,g,cr,e,o,p,a,b⟩=>⟨vk,g,cr,e,o.ch c λj d=>(f j (o.eu d).2 (p j d)).2,λj d=>(f j (o.eu d).2 (p j d)).1,WAt.ch c f a,WAt.ch c f b⟩
theorem QT.ch{P P' S:Pos->Prop}{h h':Hp}{v:V}{ws:Wds}(w:QT P h v ws)(c:Ch S h h')(d:∀j:Pos,j.nat<h.next.nat->P j->P' j/\¬S j):QT P' h' v ws:=by
 obtain⟨cs,o,p,a⟩:=w;exact⟨cs,o.ch c λj b=>(d j (o.eu b).2 (p j b)).2,λj b=>(d j (o.eu b).2 (p j b)).1,a.ch c d⟩
end Go.Ln
namespace Go.Vm
structure Stp (S:Pos->Prop) (h:Hp) (S':Pos->Prop) (h':Hp):Prop where
 ch:Ch S h h'
 sub:∀j,S' j->S j\/h.next.nat<=j.nat
theorem Stp.refl(S:Pos->Prop)(h:Hp):Stp S h S h:=⟨Ch.refl _ _,λ_ q=>.inl q⟩
theorem Stp.trans{S a b:Pos->Prop}{h c d:Hp}(x:Stp S h a c)(y:Stp a c b d):Stp S h b d:=
 ⟨x.ch.trans y.ch λj e q=>(x.sub j q).resolve_right (by omega),λj q=>(y.sub j q).elim (λq=>x.sub j q) λq=>.inr (Nat.le_trans x.ch.next q)⟩
theorem Stp.step{S a C:Pos->Prop}{h b d:Hp}(x:Stp S h a b)(c:Ch C b d)(e:∀j,C j->a j):Stp S h a d:=x.trans ⟨c.mono λj _ q=>e j q,λ_ q=>.inl q⟩
end Go.Vm
namespace Go.Proofs.Im
def GAt(P:Pos->Prop)(h:Hp):List Ln.Got->List V->Prop
 | [],cs=>cs= []
 |g::l,cs=>∃vw cr,cs= [.int .i64 g.kind,vw]++cr/\QT P h vw g.words/\GAt P h l cr
theorem GAt.ch{P P' S:Pos->Prop}{h h':Hp}(c:Ch S h h')(d:∀j:Pos,j.nat<h.next.nat->P j->P' j/\¬S j):∀{l:List Ln.Got} {cs:List V},GAt P h l cs->GAt P' h' l cs
 | [],_,w=>w
 |g::l,_,⟨vw,cr,e,a,b⟩=>⟨vw,cr,e,a.ch c d,GAt.ch c d b⟩
end Go.Proofs.Im
namespace Go.Ln
def Wds.get?:Wds->Nat->Option Wd
 | .nil,_=>none
 | .cons k t ks _,0=>some ⟨k,t,ks⟩
 | .cons _ _ _ r,n+1=>r.get? n
theorem Wds.Po:∀{ws:Wds} {k:Nat} {w:Wd},ws.get? k=some w->k<ws.len
 | .nil,_,_,h=>by cases h
 | .cons _ _ _ _,0,_,_=>by simp[Wds.len]
 | .cons _ _ _ r,n+1,w,h=>by have:=Wds.Po (ws:=r) h;simp only[Wds.len];omega
end Go.Ln
namespace Go.Proofs.Im
def Told(P:Pos->Prop)(h:Hp)(v:V)(gs:List Ln.Got):Prop:=∃cs,Ow 0 h tG 2 v gs.length cs/\(∀j,bH v=some j->P j)/\GAt P h gs cs
theorem Told.ch{P P' S:Pos->Prop}{h h':Hp}{v:V}{gs:List Ln.Got}(t:Told P h v gs)(c:Ch S h h')(b:∀j:Pos,j.nat<h.next.nat->P j->P' j/\¬S j):Told P' h' v gs:=by
 obtain⟨cs,o,i,w⟩:=t;exact⟨cs,o.ch c λj a=>(b j (o.eu a).2 (i j a)).2,λj a=>(b j (o.eu a).2 (i j a)).1,w.ch c b⟩
theorem Told.len{P:Pos->Prop}{h:Hp}{v:V}{gs:List Ln.Got}(t:Told P h v gs)(h':Hp):aZ 2 v h'=.ok (.int .i64 (gs.length:Int)) h':=by
 obtain⟨cs,o,i,w⟩:=t;exact o.sl.length
theorem GAt.get{P:Pos->Prop}{h:Hp}:∀{gs:List Ln.Got} {cs:List V} {k:Nat} {g:Ln.Got},GAt P h gs cs->gs[k]?=some g->cs[k*2]?=some (.int .i64 g.kind)/\∃vw,cs[k*2+1]?=some vw/\QT P h vw g.words
 | [],_,k,g,_,e=>by cases e
 |a::l,_,0,g,⟨vw,cr,e1,w,r⟩,e=>by
  cases e;subst e1;exact⟨rfl,vw,rfl,w⟩
 |a::l,_,k+1,g,⟨vw,cr,e1,w,r⟩,e=>by
  subst e1;have:=GAt.get (k:=k) r e;rw[show(k+1)*2=k*2+2 by omega];exact this
theorem WAt.get{P:Pos->Prop}{h:Hp}:∀{ws:Wds} {cs:List V} {k:Nat} {w:Wd},WAt P h ws cs->ws.get? k=some w->cs[k*3]?=some (.int .i64 w.kind)/\cs[k*3+1]?=some (.str w.text)/\∃vk,cs[k*3+2]?=some vk/\QT P h vk w.kids
 | .nil,_,k,w,_,e=>by cases e
 | .cons _ _ _ _,_,0,w,⟨vk,a,cr,e1,o,p,x,r⟩,e=>by
  cases e;subst e1;exact⟨rfl,rfl,vk,rfl,a,o,p,x⟩
 | .cons _ _ _ l,_,k+1,w,⟨vk,a,cr,e1,o,p,x,r⟩,e=>by
  subst e1;have:=WAt.get (k:=k) r e;rw[show(k+1)*3=k*3+3 by omega];exact this
end Go.Proofs.Im
