/- Lemmas. No conditions. -/
import Derived.Test.YtpgppmioigacoaaGreatDoorProg
import Derived.KernelRfl
import Derived.Test.YtpgppmioigacoaaGreatDoorSAI
import Derived.Test.YtpgppmioigacoaaGreatDoorSAG
import Derived.WideKeyEntry
set_option linter.all false
set_option maxHeartbeats 4000000
set_option maxRecDepth 100000
open Bool renaming and_eq_true→a!,false_eq_true→u!,not_eq_true'→y!
open Nat renaming eq_of_beq_eq_true→b!,beq→d!,ne_of_beq_eq_false→g!,blt_eq→E!
open Go.Region renaming wanted→c!
open Array renaming toList_push→e!,getD_eq_getD_getElem?→l!,getElem?_eq_some_iff→n!,getElem?_eq_getElem→p!
open List renaming range→h!,drop_eq_getElem_cons→i!,filterMap_cons_some→j!,mem_range→o!,take_succ_cons→q!,drop_succ_cons→r!,nodup_append→w!,map_append→z!,map_cons→B!,mem_map→C!,map_nil→D!
open Go.Oper renaming upon→k!,wp→v!
open Go.Instr renaming entryStore→x!,mapEntry→A!
noncomputable section
open Go Go.Proofs Go.Vm Go.Ln
namespace Go.Proofs.Im
open Go.Proofs.Tryz
def aO:prog.follows .mixedOrders=true:=by kernel_rfl
def aI:Nat:=7
abbrev fu:=aH prog aI
abbrev xD:=dJ prog aI (λ_=>true)
abbrev c_(k:List Nat):=aY prog (kp k)
def aSa:Fun:=aCD
def aSi:fu 289 aSa:=azM func289 (by kernel_rfl) (by kernel_rfl) (by kernel_rfl) (by kernel_rfl)
def aRU:F->Hp->Out:=zz
def aQ4:Fun:=c_ [0,1,4] f107.ntmps [.tmp 4] aRU
def aR5:fu 107 aQ4:=prX aO [0,1] [] bC func107
def aRZ:F->Hp->Out:=zz
def amT:Fun:=c_ [0,1,4] f365.ntmps [.tmp 4] aRZ
def awe:fu 365 amT:=prX aO [0,1] [] bC func365
def aRY:F->Hp->Out:=zz
def aET:Fun:=c_ [0,1,4,5,9] f352.ntmps [.tmp 4,.tmp 5] aRY
def aPl:fu 352 aET:=prX aO [0,1,2,3] [] bC func352
def aR3:F->Hp->Out:=zz
def aEY:Fun:=c_ [0,1,4] f170.ntmps [.tmp 4] aR3
def aPq:fu 170 aEY:=prX aO [0,1] [] bC func170
def aR2:F->Hp->Out:=zz
def aEX:Fun:=c_ [0,2,3,4,5,6,7,8,9,22,38] f171.ntmps [.tmp 2,.tmp 3,.tmp 4,.tmp 5] aR2
def aPp:fu 171 aEX:=prX aO [0,1,2,3,4,5,6,7,8,9] [] bC func171
def aR0:F->Hp->Out:=zz
def aQ8:Fun:=c_ [0,2] f281.ntmps [.tmp 2] aR0
def aR9:fu 281 aQ8:=prX aO [0,1] [] bC func281
def aRW:F->Hp->Out:=zz
def aQ6:Fun:=c_ [0,2] f425.ntmps [.tmp 2] aRW
def aR7:fu 425 aQ6:=prX aO [0,1] [] bC func425
def aRX:F->Hp->Out:=zz
def aQ2:Fun:=c_ [0,1,4,5,15] f367.ntmps [.tmp 4] aRX
def aRw:fu 367 aQ2:=prX aO [0,1,2,3,4,5] [] bC func367
def aSf:F->Hp->Out:=zz
def aRV:F->Hp->Out:=zz
def aQ5:Fun:=c_ [0,2,3,4,5,6,10,26,31,34,49] f426.ntmps [.tmp 2,.tmp 3] aRV
def aR6:fu 426 aQ5:=prX aO [0,1,2,3,5,6,8,9,10,11,12,13,14,15,16,7,4,17] [] bC func426
def aRq:Nat->Bool:=λt=>Us t [0,1,4,5,6,7,8,9,10,11,12,13,14,39,50,54,58,99]
def aRI(c:Fun)(fr:F)(h:Hp):Out:=
 eY 149 [(.int .i64 0),(.str []),.aQ] h λa b=>
 Out.nor (ss 5 (.bool false) (ss 4 a fr)) b
def aRH(d:Fun)(fr:F)(h:Hp):Out:=
 fr 0 λa=>aQ6 [a] h λb c=>
 Out.nor (ss 14 b fr) c
def aRG(g:Fun)(fr:F)(h:Hp):Out:=
 fr 0 λa=>aS a (aK 1 h) λb _=>
 aF 1 b (aK 1 h) λc _=>
 aG c (aK 1 h) λd _=>
 fr 0 λi=>aS i (aK 1 h) λj _=>
 aF 2 j (aK 1 h) λm _=>
 aG m (aK 1 h) λn _=>
 bD 1 d n (aK 1 h) λo _=>
 aG o (aK 1 h) λp _=>
 bK [(.int .i64 0),(.str []),.aQ] [(0,1,(.int .i64 2)),(1,1,p)] (aK 1 h) λq _=>
 IC (afd 149 [(.int .i64 0),(.str []),.aQ]) λf e=>
 aV 3 (e (Hp.next h)) q (Hp.put (aK 1 h) (Hp.next h) (some f)) λ_ r=>
 Out.nor (ss 6 (e (Hp.next h)) fr) r
def aRF(e:Fun)(fr:F)(h:Hp):Out:=
 fr 0 λa=>aS a h λb c=>
 aF 2 b c λd i=>
 aG d i λj m=>
 aJ .add .none j (.int .i64 1) m λn o=>
 aS a o λp q=>
 aF 2 p q λr s=>
 aV 1 r n s λ_ t=>
 Out.nor fr t
def aRE(e:Fun)(fr:F)(h:Hp):Out:=
 fr 0 λa=>aS a h λb c=>
 aF 3 b c λd i=>
 aV 1 d (.int .i64 0) i λ_ j=>
 Out.nor fr j
def aRD(e:Fun)(fr:F)(h:Hp):Out:=
 fr 6 λa=>cO 3 a h λb c=>
 fr 4 λd=>aV 3 d b c λ_ i=>
 Out.nor (ss 5 (.bool true) fr) i
def aRC(d:Fun)(fr:F)(h:Hp):Out:=
 fr 0 λa=>aQ2 [a,(.int .u8 34)] h λb c=>
 Out.nor (ss 39 b fr) c
def aRB(e:Fun)(fr:F)(h:Hp):Out:=
 fr 0 λa=>aQ5 [a] h λb c=>
 bJ 0 b c λd i=>
 bJ 1 b i λj m=>
 Out.nor (ss 8 j (ss 7 d fr)) m
def aRA(e:Fun)(fr:F)(h:Hp):Out:=
 fr 7 λa=>bK [(.int .i64 0),(.str []),.aQ] [(0,1,(.int .i64 2)),(1,1,a)] h λb c=>
 fr 8 λd=>fr 4 λi=>aV 3 i b c λ_ j=>
 Out.nor (ss 5 d fr) j
def aRz(d:Fun)(fr:F)(h:Hp):Out:=
 fr 0 λa=>aQ2 [a,(.int .u8 40)] h λb c=>
 Out.nor (ss 50 b fr) c
def aRn(d:Fun)(fr:F)(h:Hp):Out:=
 fr 1 λa=>aJ .geq .none a (.int .i64 8) h λb c=>
 Out.nor (ss 54 b fr) c
def aRm(e:Fun)(fr:F)(h:Hp):Out:=
 bK [(.int .i64 0),(.str []),.aQ] [] h λa b=>
 fr 4 λc=>aV 3 c a b λ_ d=>
 Out.nor (ss 5 (.bool false) fr) d
def aRl(e:Fun)(fr:F)(h:Hp):Out:=
 bK [(.int .i64 0),(.str []),.aQ] [(0,1,(.int .i64 3))] h λa b=>
 eY 149 [(.int .i64 0),(.str []),.aQ] b λc d=>
 aV 3 c a d λ_ i=>
 Out.nor (ss 9 c fr) i
def aRk(d:Fun)(fr:F)(h:Hp):Out:=
 fr 0 λa=>aQ2 [a,(.int .u8 41)] h λb c=>
 Out.nor (ss 58 b fr) c
def aRj(e:Fun)(fr:F)(h:Hp):Out:=
 fr 9 λa=>cO 3 a h λb c=>
 fr 4 λd=>aV 3 d b c λ_ i=>
 Out.nor (ss 5 (.bool true) fr) i
def aRi(e:Fun)(fr:F)(h:Hp):Out:=
 fr 0 λa=>fr 1 λb=>aJ .add .none b (.int .i64 1) h λc d=>
 e [a,c] d λi j=>
 bJ 0 i j λm n=>
 bJ 1 i n λo p=>
 Out.nor (ss 11 o (ss 10 m fr)) p
def aRh(e:Fun)(fr:F)(h:Hp):Out:=
 fr 10 λa=>fr 9 λb=>aF 2 b h λc d=>
 aV 1 c a d λ_ i=>
 Out.nor fr i
def aRg(e:Fun)(fr:F)(h:Hp):Out:=
 fr 11 λa=>ifB a (fr 0 λb=>aQ2 [b,(.int .u8 41)] (aK 0 h) λc d=>
 fr 9 λi=>cO 3 i d λj _=>chk (λh=>cO 3 i h) j (
 fr 4 λm=>aV 3 m j d λ_ n=>
 Out.nor (ss 5 c fr) n) 1 [(aK 0 h)]) (fr 9 λi=>cO 3 i (aK 0 h) λj _=>chk (λh=>cO 3 i h) j (
 fr 4 λm=>aV 3 m j (aK 0 h) λ_ n=>
 Out.nor (ss 5 (.bool false) fr) n) 1 [(aK 0 h)])
def aRf(d:Fun)(fr:F)(h:Hp):Out:=
 fr 0 λa=>aQ8 [a] h λb c=>
 Out.nor (ss 12 b fr) c
def aRe(a:Fun)(fr:F)(h:Hp):Out:=
 Out.nor (ss 13 (.int .i64 0) fr) h
def aRd(e:Fun)(fr:F)(h:Hp):Out:=
 fr 13 λa=>fr 12 λb=>aZ 1 b h λc d=>
 aJ .lss .none a c d λi j=>
 ifB i (mF b a j λm n=>
 aJ .geq .none m (.int .u8 33) n λo p=>
 ifB o (mF b a p λq r=>
 aJ .leq .none q (.int .u8 126) r λs t=>
 ifB s (mF b a t λu v=>
 aQ4 [(.str [40,41,34,123]),u] v λw x=>
 aJ .lss .none w (.int .i64 0) x λy z=>
 Out.nor (ss 99 y fr) z) (Out.nor (ss 99 (.bool false) fr) t)) (Out.nor (ss 99 (.bool false) fr) p)) (Out.nor (ss 99 (.bool false) fr) j)
def aRc(d:Fun)(fr:F)(h:Hp):Out:=
 fr 13 λa=>aJ .add .none a (.int .i64 1) h λb c=>
 Out.nor (ss 13 b fr) c
def aRb(e:Fun)(fr:F)(h:Hp):Out:=
 fr 0 λa=>aS a h λb c=>
 aF 3 b c λd i=>
 aG d i λj m=>
 fr 13 λn=>aJ .add .none j n m λo p=>
 aS a p λq r=>
 aF 3 q r λs t=>
 aV 1 s o t λ_ u=>
 Out.nor fr u
def aRa(e:Fun)(fr:F)(h:Hp):Out:=
 fr 12 λa=>fr 13 λb=>Bj a none (some b) h λc d=>
 bK [(.int .i64 0),(.str []),.aQ] [(0,1,(.int .i64 1)),(1,1,c)] d λi j=>
 aJ .gtr .none b (.int .i64 0) j λm n=>
 fr 4 λo=>aV 3 o i n λ_ p=>
 Out.nor (ss 5 m fr) p
def aRy(a:Fun):F->Hp->Out:=(aC (aC (aRd a) (tT 99 Out.nor (Out.ex 1))) (bI 2 (aRc a)))
def aRu(a:Fun):F->Hp->Out:=(aC (aRI a) (aC (bI 0 (aC (aRH a) (tT 14 (aC (aRG a) (aC (aRF a) (aC (aRE a) (aC (aRD a) Out.ret)))) (aC (aRC a) (tT 39 (aC (aRB a) (aC (aRA a) Out.ret)) (aC (aRz a) (tT 50 (aC (aC (aRn a) (tT 54 (aC (aRm a) Out.ret) Out.nor)) (aC (aRl a) (aC (aC (aRk a) (tT 58 (aC (aRj a) Out.ret) Out.nor)) (aC (aRi a) (aC (aRh a) (aC (aRg a) Out.ret)))))) Out.nor))))))) (aC (aRf a) (aC (aRe a) (aC (bI 1 (dI (aRy a) lf)) (aC (aRb a) (aC (aRa a) Out.ret)))))))
def aRs(a:Fun):FuncId->Option Fun:=λf=>match d! f 425 with|true=>some aQ6|false=>match d! f 367 with|true=>some aQ2|false=>match d! f 426 with|true=>some aQ5|false=>match d! f 280 with|true=>some a|false=>match d! f 281 with|true=>some aQ8|false=>match d! f 107 with|true=>some aQ4|false=>none
def aRo:bQ:=λid=>match d! id 2 with|true=>some ([0,1,3,7,0,16,48,112,255,511,1023,0,4095],[(0,.pure),(1,.pure),(2,.pure),(3,.read 0),(4,.pure),(5,.pure),(6,.pure),(7,.read 0),(8,.pure),(9,.read 0),(10,.pure),(11,.alloc),(12,.heavy)])|false=>match d! id 17 with|true=>some ([0,0,2,6,14,30,31,127],[(1,.pure),(2,.pure),(3,.pure),(4,.heavy),(0,.read 1),(6,.heavy),(5,.pure),(7,.pure)])|false=>none
def aQ7(a:Fun):Fun:=dJ prog aI aRq (aRs a) aRo lf f366
def aSb(a:Fun):nP prog aI f366.ntmps aRq (aRs a) aRo lf (codeOf f366)=(aRu a):=by kernel_rfl
def aSd(a:Fun)(b c:V)(h:Hp):(aQ7 a) [b,c] h=bU prog [.cell 4 149,.tmp 5] ((aRu a) (T.set (some c) (Pos.of 1) (T.set (some b) (Pos.of 0) T.nil)) h):=aQG (by kernel_rfl) (aSb a) (by kernel_rfl) h
def aR8(a:Fun)(b:fu 280 a):fu 366 (aQ7 a):=bF aO (aP aR7 (aP aRw (aP aR6 (aP b (aP aR9 (aP aR5 aW)))))) func366 (by kernel_rfl)
def aRr:Nat->Bool:=λt=>Us t [0,1,4,5,6,7,8,16,23]
def aRQ(a:Fun)(fr:F)(h:Hp):Out:=
 Out.nor (ss 5 (.bool false) (ss 4 .aQ fr)) h
def aRP(a:Fun)(fr:F)(h:Hp):Out:=
 Out.nor (ss 6 .aQ fr) h
def aRO(e:Fun)(fr:F)(h:Hp):Out:=
 fr 0 λa=>fr 1 λb=>e [a,b] h λc d=>
 bJ 0 c d λi j=>
 bJ 1 c j λm n=>
 eY 149 [(.int .i64 0),(.str []),.aQ] n λo p=>
 aV 3 o i p λ_ q=>
 Out.nor (ss 8 m (ss 7 o fr)) q
def aRN(d:Fun)(fr:F)(h:Hp):Out:=
 fr 8 λa=>oUn .not a h λb c=>
 Out.nor (ss 16 b fr) c
def aRM(a:Fun)(fr:F)(h:Hp):Out:=
 Out.nor (ss 5 (.bool false) (ss 4 .aQ fr)) h
def aRL(e:Fun)(fr:F)(h:Hp):Out:=
 fr 6 λa=>fr 7 λb=>cO 3 b h λc d=>
 bP 149 [(.int .i64 0),(.str []),.aQ] 1 [(0,3,c)] d λi j=>
 bZ 149 3 48 a i j λm n=>
 Out.nor (ss 6 m fr) n
def aRK(e:Fun)(fr:F)(h:Hp):Out:=
 fr 0 λa=>aQ2 [a,(.int .u8 32)] h λb c=>
 oUn .not b c λd i=>
 Out.nor (ss 23 d fr) i
def aRJ(b:Fun)(fr:F)(h:Hp):Out:=
 fr 6 λa=>Out.nor (ss 5 (.bool true) (ss 4 a fr)) h
def aRR(a:Fun):F->Hp->Out:=(bI 1 (aC (aRO a) (aC (aC (aRN a) (tT 16 (aC (aRM a) Out.ret) Out.nor)) (aC (aRL a) (aC (aRK a) (tT 23 (aC (aRJ a) Out.ret) Out.nor))))))
def aRv(a:Fun):F->Hp->Out:=(aC (aRQ a) (aC (aRP a) (bI 0 (dI (aRR a) lf))))
def aRt(a:Fun):FuncId->Option Fun:=λf=>match d! f 366 with|true=>some a|false=>match d! f 367 with|true=>some aQ2|false=>none
def aRp:bQ:=λid=>none
def aQ3(a:Fun):Fun:=dJ prog aI aRr (aRt a) aRp lf f280
def aSc(a:Fun):nP prog aI f280.ntmps aRr (aRt a) aRp lf (codeOf f280)=(aRv a):=by kernel_rfl
def aSe(a:Fun)(b c:V)(h:Hp):(aQ3 a) [b,c] h=bU prog [.tmp 4,.tmp 5] ((aRv a) (T.set (some c) (Pos.of 1) (T.set (some b) (Pos.of 0) T.nil)) h):=aQG (by kernel_rfl) (aSc a) (by kernel_rfl) h
def aRx(a:Fun)(b:fu 366 a):fu 280 (aQ3 a):=bF aO (aP b (aP aRw aW)) func280 (by kernel_rfl)
def aRS:Nat->Fun
 |0=>λ_ _=>.bad
 |n+1=>aQ7 (aQ3 (aRS n))
def aQ9:∀n,fu 366 (aRS n)
 |0=>λ_ _ _ _ _ _ _ e=>by cases e
 |n+1=>aR8 _ (aRx _ (aQ9 n))
def aRT:Fun:=aQ3 (aRS 20)
def aSh:fu 280 aRT:=aRx _ (aQ9 20)
def aSg:F->Hp->Out:=zz
def aR1:F->Hp->Out:=zz
def aEW:Fun:=c_ [0,1,4,5,6,7,8,9,10,12,13,14,45] f172.ntmps [.tmp 4,.tmp 5] aR1
def aPo:fu 172 aEW:=prX aO [0,1,2,3,4,5,6,7,8,9,10] [] bC func172
def aR4:F->Hp->Out:=zz
def aEZ:Fun:=c_ [0,2] f40.ntmps [.tmp 2] aR4
def aPs:fu 40 aEZ:=prX aO [0,1] [] bC func40
end Go.Proofs.Im
namespace Go.Ln
open Go.Proofs.Im
def Wds.app:Wds->Wds->Wds
 | .nil,b=>b
 | .cons k t ks r,b=>.cons k t ks (r.app b)
def WAt(P:Pos->Prop)(h:Hp):Wds->List V->Prop
 | .nil,cs=>cs= []
 | .cons k t ks r,cs=>∃vk a b,cs= [.int .i64 k,.str t,vk]++b/\Ow 0 h 149 3 vk ks.len a/\(∀j,bV vk=some j->P j/\k=3)/\WAt P h ks a/\WAt P h r b
def Xr(P:Pos->Prop)(h:Hp)(v:V)(ws:Wds):Prop:=∃cs,Ow 0 h 149 3 v ws.len cs/\(∀j,bV v=some j->P j)/\WAt P h ws cs
def WAt.ch{P P' S:Pos->Prop}{h h':Hp}(c:Ch S h h')(d:∀j:Pos,j.nat<h.next.nat->P j->P' j/\¬S j):∀{ws:Wds} {cs:List V},WAt P h ws cs->WAt P' h' ws cs
 | .nil,_,w=>w
 | .cons k t ks r,_,⟨vk,f,g,e,o,p,a,b⟩=>⟨vk,f,g,e,o.ch c λj hj=>(d j (o.fF hj).2 (p j hj).1).2,λj hj=>⟨(d j (o.fF hj).2 (p j hj).1).1,(p j hj).2⟩,WAt.ch c d a,WAt.ch c d b⟩
def Xr.ch{P P' S:Pos->Prop}{h h':Hp}{v:V}{ws:Wds}(w:Xr P h v ws)(c:Ch S h h')(b:∀j:Pos,j.nat<h.next.nat->P j->P' j/\¬S j):Xr P' h' v ws:=by
 obtain⟨cs,o,p,a⟩:=w;exact⟨cs,o.ch c λj hj=>(b j (o.fF hj).2 (p j hj)).2,λj hj=>(b j (o.fF hj).2 (p j hj)).1,a.ch c b⟩
end Go.Ln
namespace Go.Vm
structure Stp (S:Pos->Prop) (h:Hp) (S':Pos->Prop) (h':Hp):Prop where
 ch:Ch S h h'
 sub:∀j,S' j->S j\/h.next.nat<=j.nat
def Stp.refl(S:Pos->Prop)(h:Hp):Stp S h S h:=⟨Ch.refl _ _,λ_ q=>.inl q⟩
def Stp.trans{S a b:Pos->Prop}{h c d:Hp}(x:Stp S h a c)(y:Stp a c b d):Stp S h b d:=
 ⟨x.ch.trans y.ch λj hj q=>(x.sub j q).resolve_right (by omega),λj q=>(y.sub j q).elim (λq=>x.sub j q) λq=>.inr (Nat.le_trans x.ch.next q)⟩
def Stp.step{S a C:Pos->Prop}{h b d:Hp}(x:Stp S h a b)(c:Ch C b d)(e:∀j,C j->a j):Stp S h a d:=x.trans ⟨c.mono λj _ q=>e j q,λ_ q=>.inl q⟩
end Go.Vm
namespace Go.Proofs.Im
def GAt(P:Pos->Prop)(h:Hp):List Ln.Got->List V->Prop
 | [],cs=>cs= []
 |g::l,cs=>∃vw a,cs= [.int .i64 g.kind,vw]++a/\Xr P h vw g.words/\GAt P h l a
def GAt.ch{P P' S:Pos->Prop}{h h':Hp}(c:Ch S h h')(d:∀j:Pos,j.nat<h.next.nat->P j->P' j/\¬S j):∀{l:List Ln.Got} {cs:List V},GAt P h l cs->GAt P' h' l cs
 | [],_,w=>w
 |g::l,_,⟨vw,f,e,a,b⟩=>⟨vw,f,e,a.ch c d,GAt.ch c d b⟩
end Go.Proofs.Im
namespace Go.Ln
def Wds.get?:Wds->Nat->Option Wd
 | .nil,_=>none
 | .cons k t ks _,0=>some ⟨k,t,ks⟩
 | .cons _ _ _ r,n+1=>r.get? n
def Wds.C9:∀{ws:Wds} {k:Nat} {w:Wd},ws.get? k=some w->k<ws.len
 | .nil,_,_,h=>by cases h
 | .cons _ _ _ _,0,_,_=>by simp[Wds.len]
 | .cons _ _ _ r,n+1,w,h=>by have:=Wds.C9 (ws:=r) h;simp only[Wds.len];omega
end Go.Ln
namespace Go.Proofs.Im
def Told(P:Pos->Prop)(h:Hp)(v:V)(gs:List Ln.Got):Prop:=∃cs,Ow 0 h 94 2 v gs.length cs/\(∀j,bV v=some j->P j)/\GAt P h gs cs
def Told.ch{P P' S:Pos->Prop}{h h':Hp}{v:V}{gs:List Ln.Got}(t:Told P h v gs)(c:Ch S h h')(a:∀j:Pos,j.nat<h.next.nat->P j->P' j/\¬S j):Told P' h' v gs:=by
 obtain⟨cs,o,i,w⟩:=t;exact⟨cs,o.ch c λj hj=>(a j (o.fF hj).2 (i j hj)).2,λj hj=>(a j (o.fF hj).2 (i j hj)).1,w.ch c a⟩
def Told.len{P:Pos->Prop}{h:Hp}{v:V}{gs:List Ln.Got}(t:Told P h v gs)(h':Hp):aZ 2 v h'=.ok (.int .i64 (gs.length:Int)) h':=by
 obtain⟨cs,o,i,w⟩:=t;exact o.sl.length
def GAt.get{P:Pos->Prop}{h:Hp}:∀{gs:List Ln.Got} {cs:List V} {k:Nat} {g:Ln.Got},GAt P h gs cs->gs[k]?=some g->cs[k*2]?=some (.int .i64 g.kind)/\∃vw,cs[k*2+1]?=some vw/\Xr P h vw g.words
 | [],_,k,g,_,e=>by cases e
 |b::l,_,0,g,⟨vw,a,e1,w,r⟩,e=>by
  cases e;subst e1;exact⟨rfl,vw,rfl,w⟩
 |b::l,_,k+1,g,⟨vw,a,e1,w,r⟩,e=>by
  subst e1;have:=GAt.get (k:=k) r e;rw[show(k+1)*2=k*2+2 by omega];exact this
def WAt.get{P:Pos->Prop}{h:Hp}:∀{ws:Wds} {cs:List V} {k:Nat} {w:Wd},WAt P h ws cs->ws.get? k=some w->cs[k*3]?=some (.int .i64 w.kind)/\cs[k*3+1]?=some (.str w.text)/\∃vk,cs[k*3+2]?=some vk/\Xr P h vk w.kids
 | .nil,_,k,w,_,e=>by cases e
 | .cons _ _ _ _,_,0,w,⟨vk,a,b,e1,o,p,x,r⟩,e=>by
  cases e;subst e1;exact⟨rfl,rfl,vk,rfl,a,o,λj hj=>(p j hj).1,x⟩
 | .cons _ _ _ l,_,k+1,w,⟨vk,a,b,e1,o,p,x,r⟩,e=>by
  subst e1;have:=WAt.get (k:=k) r e;rw[show(k+1)*3=k*3+3 by omega];exact this
end Go.Proofs.Im
namespace Go.Vm
section
variable{P:Program}{G:Nat}{M:Mp}{h h':Hp}{w:World}{r:V}
def aFY{ops:Array Oper}:∀(l:List Nat) (a:Act) (i:World) (Q k:Exit->Act->World->Prop),(∀e a w,Q e a w->k e a w)->wpOps P ops Q l a i->wpOps P ops k l a i:=by
 intro l;induction l with
 |nil=>intro a i Q k c b;exact c _ _ _ b
 |cons j l d=>
  intro a i Q k c b;simp only[wpOps]at b⊢;split
  ·rename_i hn;simp only[hn]at b;exact d _ _ _ _ c b
  ·rename_i o hn;simp only[hn]at b;split
   ·rename_i f;simp only[f,if_true]at b;rcases b with b|⟨p,a2,u,q⟩
    ·refine .inl ?_;unfold v! at b⊢;revert b;generalize (execOp a.eval o).run P i=m;intro b;cases m with
     |ok n w'=>
      cases n<;>simp only[k!]at b⊢<;>first
       |exact d _ _ _ _ c b
       |exact Calls.mono b (λe t g=>by
         cases e<;>first
          |exact d _ _ _ _ c g
          |exact c _ _ _ g
          |(obtain⟨a3,v,s⟩:=g;exact⟨a3,v,c _ _ _ s⟩))
       |exact Rows.mono b (λ_ _ g=>d _ _ _ _ c g)
     |halt x w'=>cases x<;>simp only[k!]at b⊢<;>first|exact c _ _ _ b|exact b
    ·exact .inr ⟨p,a2,u,c _ _ _ q⟩
   ·rename_i f;simp only[f]at b;exact d _ _ _ _ c b
def ay8{ops:Array Oper}{Q b:Exit->Act->World->Prop}(d:∀e a w,Q e a w->b e a w)(l:List Nat)(a:Act)(c:World)(f:wpOps P ops Q l a c):wpOps P ops b l a c:=aFY l a c Q b d f
def aeA(P:Program)(keep:Nat->Bool)(e:FuncId->Option Fun)(ops:Array Oper)(kk:Env->F->Hp->Out):List Oper->Env->F->Hp->Out
 | [],env,fr,h=>kk env fr h
 |o::l,env,fr,h=>(match o.guard with
  |none=>opK P keep e o env fr h (aeA P keep e ops kk l)
  |some (j,b)=>(match (ops[j]?).bind (·.dst) with
   |none=>.bad
   |some d=>Xk d env fr λv env=>ae2 v b (opK P keep e o env fr h (aeA P keep e ops kk l)) (wE keep o.dst V.undef env fr λenv fr=>aeA P keep e ops kk l env fr h)))
def aIQ{kk:Env->F->Hp->Out}{rest:List Nat}{keep:Nat->Bool}{N:Nat}{Df:List Deferred}{e:FuncId->Option Fun}(H:∀f F,e f=some F->aH P G f F){ops:Array Oper}(B:∀o∈ops.toList,nZ G N o=true){out:Out}(hb:out≠ .bad)
  (hk:∀env fr h M a w,At keep G N Df M fr h a w->jY M env a->kk env fr h=out->wpOps P ops (iw keep G N Df M h w out) rest a w):
  ∀(l:List Nat) (env:Env) (fr:F) (h:Hp) (M:Mp) (a:Act) (w:World),(∀i∈l,i<ops.size)->At keep G N Df M fr h a w->jY M env a->aeA P keep e ops kk (l.filterMap (ops[·]?)) env fr h=out->
   wpOps P ops (iw keep G N Df M h w out) (l++rest) a w:=by
 intro l;induction l with
 |nil=>
  intro env fr h M a w _ at_ C e0;simp only[List.filterMap_nil,aeA]at e0;exact hk env fr h M a w at_ C e0
 |cons i l W=>
  intro env fr h M a w hl at_ C e0;have hi:i<ops.size:=hl i (by simp);have Q:ops[i]?=some ops[i]:=p! hi;rw[List.cons_append,wpOps_cons];unfold wpOp;simp only[Q];rw[j! Q]at e0;have p:=B ops[i] (by simp);have next:∀g s h' a' w' M',aeA P keep e ops kk (l.filterMap (ops[·]?)) g s h'=out->At keep G N Df M' s h' a' w'->jY M' g a'->Ext M h w M' h' w'->wpOps P ops (iw keep G N Df M h w out) (l++rest) a' w':=by
   intro g s h' a' w' M' e1 at1 k U;have:=W g s h' M' a' w' (λj hj=>hl j (by simp[hj])) at1 k e1;exact ay8 (λe a v q=>iw.trans U q) _ _ _ this
  unfold aeA at e0;split at e0
  ·rename_i D;have y:c! ops[i] (yielded ops a.tmps)=true:=by simp[c!,D]
   simp only[y,if_true];exact .inl (Uj H p hb at_ C e0 next)
  ·rename_i j b D;split at e0
   ·exact absurd e0.symm hb
   ·rename_i d hd;obtain⟨v,O,e1,S,k⟩:=aoT hb at_.fr C e0;unfold ae2 at e1;split at e1
    ·rename_i c;have n:=S.bool;have L:yielded ops a.tmps j=some c:=by
      unfold yielded;rw[hd];simp only[Option.bind_some];rw[l!]at n;cases E:a.tmps[d]? with
      |none=>rw[E]at n;cases n
      |some z=>rw[E]at n;simp at n;subst n;rfl
     have y:c! ops[i] (yielded ops a.tmps)=(c==b):=by
      simp only[c!,D,L];cases c<;>cases b<;>rfl
     split at e1
     ·simp only[y,beq_self_eq_true,if_true];exact .inl (Uj H p hb at_ k e1 next)
     ·simp only[y,beq_self_eq_true,if_true];exact .inl (Uj H p hb at_ k e1 next)
     ·rename_i J K;have I:(c==b)=false:=by
       cases c<;>cases b<;>first|rfl|exact absurd rfl (J rfl)|exact absurd rfl (K rfl)
      simp only[y,I,u!,if_false];obtain⟨m,u,e2,t,x⟩:=TD at_ k (xP p) (lH M) e1;exact next m u h _ _ M e2 t x (.refl at_.rel)
    ·obtain⟨xs,_,n⟩:=S.tuple;have L:yielded ops a.tmps j=none:=by
      unfold yielded;rw[hd];simp only[Option.bind_some];rw[l!]at n;cases E:a.tmps[d]? with
      |none=>rfl
      |some z=>rw[E]at n;simp at n;subst n;rfl
     have y:c! ops[i] (yielded ops a.tmps)=false:=by
      simp only[c!,D,L];cases b<;>rfl
     simp only[y,u!,if_false];obtain⟨m,u,e2,t,x⟩:=TD at_ k (xP p) (lH M) e1;exact next m u h _ _ M e2 t x (.refl at_.rel)
    ·exact absurd e1.symm hb
def aN5(x y:V)(m:V)(h:Hp):R V:=match m with
 | .map i=>(match h.get i with
  |some (.map es)=>(match lJ x es with
   |some none=>.ok V.undef (h.put i (some (.map (es++ [(x,y)]))))
   |_=>.bad)
  |_=>.bad)
 |_=>.bad
def aG3(P:Program)(t:TypeId)(m x y:V)(h:Hp):R V:=match P.underlying t with
 |some (.map b a)=>(match P.underlying b with
  |some d=>(match mG d x with
   |true=>(match (P.info? a).bind (·.zero) with
    |some _=>aN5 x y m h
    |none=>.bad)
   |false=>.bad)
  |none=>.bad)
 |_=>.bad
def aN2{t:TypeId}{m x y:V}{W g D:Value}(hr:Rel G M h w)(hm:Rp M m W)(hx:Rp M x g)(hy:Rp M y D)(e:aG3 P t m x y h=.ok r h'):
  ∃z st B w',(A! t W g).run P w=.ok (.tuple #[z,goInt st]) B/\(x! t W (goInt st) D).run P B=.ok () w'/\Rel G M h' w'/\Ext M h w M h' w':=by
 unfold aG3 at e;split at e
 ·rename_i kt et ht;split at e
  ·rename_i d hd;split at e
   ·rename_i hf;split at e
    ·rename_i C hz;obtain⟨ie,aa,ad⟩:=Option.bind_eq_some_iff.1 hz;have ae:∀u:World,(zeroValue et).run P u=.ok C u:=λu=>by simp[zeroValue,typeInfo,aa,ad]
     unfold aN5 at e;split at e
     ·rename_i i;obtain⟨L,hL,rfl⟩:=hm.map;split at e
      ·rename_i es I;split at e
       ·rename_i J;cases e;obtain⟨en,c,hb,⟨l,hp,U⟩,N,o,S⟩:=aCm hr I hL;have O:L.blk<w.heap.size:=(n!.1 hb).1;have hg:(getObj L.blk).run P w=.ok (.map en c) w:=by simp[getObj,Sem.run,hb]
        have Y:=PY (w:=w) hd hf g false;obtain⟨q,hq,ac⟩:=find_ok hf hx hp U N J;cases q with
        |some p=>exact ac.elim
        |none=>
         have ab:wG M (es++ [(x,y)]) (en.push {key:=g,val:=D,born:=c}) (c+1):=by
          refine⟨⟨l++ [{key:=g,val:=D,born:=c}],by rw[e!];exact hp.append_right _,jd.snoc hx hy U⟩,N.snoc λn k v hn=>SH J n k v hn,λe0 f=>?_,?_⟩
          ·simp at f;rcases f with f|rfl
           ·have:=o e0 (by simpa using f);omega
           ·simp
          ·simp only[e!,z!,B!,D!];rw[w!];refine⟨S,by simp,λa X b s=>?_⟩;simp at s;subst s;obtain⟨e0,f,rfl⟩:=C!.1 X;have:=o e0 f
           omega
         have T:Rel G M (h.put i (some (.map (es++ [(x,y)])))) {w with heap:=w.heap.setIfInBounds L.blk (.map (en.push {key:=g,val:=D,born:=c}) (c+1))}/\Ext M h w M (h.put i (some (.map (es++ [(x,y)])))) {w with heap:=w.heap.setIfInBounds L.blk (.map (en.push {key:=g,val:=D,born:=c}) (c+1))}:=
          hr.turn I hL rfl (by simp) (λk hk=>by simp[Array.getElem?_setIfInBounds_ne (Ne.symm hk)]) rfl rfl rfl ⟨_,_,by simp[O],ab⟩
         obtain⟨B,E⟩:∃B,B={w with heap:=w.heap.setIfInBounds L.blk (.map (en.push {key:=g,val:=C,born:=c}) (c+1))}:=⟨_,rfl⟩
         have H:B.heap[L.blk]?=some (.map (en.push {key:=g,val:=C,born:=c}) (c+1)):=by rw[E];simp[O]
         have Z:(getObj L.blk).run P B=.ok (.map (en.push {key:=g,val:=C,born:=c}) (c+1)) B:=by simp[getObj,Sem.run,H]
         have K:(en.push {key:=g,val:=C,born:=c}).findIdx? (λe=>((e.born:Nat):Int)==((c:Nat):Int))=some en.size:=by
          rw[WideElems.findIdx_arr];exact WideElems.findIdx_born (l:=(en.push {key:=g,val:=C,born:=c}).toList) (j:=en.size) (e0:={key:=g,val:=C,born:=c}) (by
           simp only[e!,z!,B!,D!];rw[w!];refine⟨S,by simp,λa X b s=>?_⟩;simp at s;subst s;obtain⟨e0,f,rfl⟩:=C!.1 X;have:=o e0 f
           omega) (by simp)
         have Q:(en.push {key:=g,val:=C,born:=c}).modify en.size (λe=>{e with val:=D})=en.push {key:=g,val:=D,born:=c}:=by
          apply Array.ext';rw[Array.toList_modify,e!,e!,<-Array.length_toList,WideElems.modify_last]
         refine⟨C,c,B,_,?_,?_,T.1,T.2⟩
         ·unfold A!;simp[run_underlying ht,hg,Y,Instr.findKey,run_underlying hd,hq,ae,Sm _ hb,<-E]
         ·unfold x!;simp[Z,_root_.Go.asInt,_root_.Go.asIntOf,goInt,K,Q,Sm _ H];rw[E];simp
       ·cases e
      ·cases e
     ·cases e
    ·cases e
   ·cases e
  ·cases e
 ·cases e
structure Ent3 (keep:Nat->Bool) (N:Nat) (ops:Array Oper) (i:Nat) (t:TypeId) (a b c d s:Nat):Prop where
 o1:∃o,ops[i]?=some o/\o.op=.mapEntry t (.tmp a) (.tmp b)/\o.dst=some d/\o.guard=none
 o2:∃o,ops[i+1]?=some o/\o.op=.extract (.tmp d) 1/\o.dst=some s/\o.guard=none
 o3:∃o,ops[i+2]?=some o/\o.op=.entryStore t (.tmp a) (.tmp s) (.tmp c)/\o.dst=none/\o.guard=none
 lt:d<N/\s<N
 ne:a≠d/\a≠s/\c≠d/\c≠s
 kd:keep d=false
 ks:keep s=false
def aCJ(P:Program)(t:TypeId)(a b c:Nat)(fr:F)(h:Hp)(k:F->Hp->Out):Out:=
 ahe [.tmp a,.tmp b,.tmp c] [] fr λvs _=>match vs with
  |m::x::y:: []=>bnd (aG3 P t m x y) h λ_ h=>k fr h
  |_=>.bad
def aJE{keep:Nat->Bool}{N:Nat}{Df:List Deferred}{ops:Array Oper}{i:Nat}{t:TypeId}{a b c d s:Nat}(j:Ent3 keep N ops i t a b c d s){rest:List Nat}{out:Out}(hb:out≠ .bad){fr:F}{A:Act}(at_:At keep G N Df M fr h A w)
  {k:F->Hp->Out} (e:aCJ P t a b c fr h k=out) (hk:∀h' A' w',At keep G N Df M fr h' A' w'->k fr h'=out->Ext M h w M h' w'->wpOps P ops (iw keep G N Df M h' w' out) rest A' w'):
  wpOps P ops (iw keep G N Df M h w out) (i::(i+1)::(i+2)::rest) A w:=by
 obtain⟨o1,p1,q1,d1,g1⟩:=j.o1;obtain⟨o2,p2,q2,d2,g2⟩:=j.o2;obtain⟨o3,p3,q3,d3,g3⟩:=j.o3;unfold aCJ at e;obtain⟨vs,Y,e1,hv,-⟩:=aks hb at_ (λx Q g hg=>by rw[hg]at Q;simp at Q) (jY.nil M A) e;obtain⟨m,l1,hm,J,rfl⟩:∃m l,Rp M m (A.eval (.tmp a))/\bY M l [A.eval (.tmp b),A.eval (.tmp c)]/\vs=m::l:=by
  cases vs with
  |nil=>exact absurd hv (by simp[bY])
  |cons m l=>obtain⟨x,y,B,C,I⟩:=hv;cases I;exact⟨m,l,B,C,rfl⟩
 obtain⟨x,l2,Q,K,rfl⟩:∃m l,Rp M m (A.eval (.tmp b))/\bY M l [A.eval (.tmp c)]/\l1=m::l:=by
  cases l1 with
  |nil=>exact absurd J (by simp[bY])
  |cons m l=>obtain⟨x,y,B,C,I⟩:=J;cases I;exact⟨m,l,B,C,rfl⟩
 obtain⟨y,l3,hy,X,rfl⟩:∃m l,Rp M m (A.eval (.tmp c))/\bY M l []/\l2=m::l:=by
  cases l2 with
  |nil=>exact absurd K (by simp[bY])
  |cons m l=>obtain⟨x,y,B,C,I⟩:=K;cases I;exact⟨m,l,B,C,rfl⟩
 cases l3 with
 |cons z l=>exact absurd X (by simp[bY])
 |nil=>
 simp only[]at e1;obtain⟨r0,h',er,e2⟩:=ae8 hb e1;obtain⟨z,st,S,w',r1,r2,hr,L⟩:=aN2 at_.rel hm Q hy er;have hd:d<A.tmps.size:=by rw[at_.size];exact j.lt.1
 obtain⟨p,f⟩:∃p,p=A.put (some d) (.tuple #[z,goInt st]):=⟨_,rfl⟩
 have Z:s<p.tmps.size:=by rw[f];simp[Act.put,at_.size,j.lt.2]
 obtain⟨o,n⟩:∃o,o=p.put (some s) (goInt st):=⟨_,rfl⟩
 have W:p.eval (.tmp d)=.tuple #[z,goInt st]:=by
  show p.tmps.getD d undef=_;rw[f,vF hd,if_pos rfl]
 have t2:∀u,u≠d->u≠s->o.tmps.getD u undef=A.tmps.getD u undef:=λu B C=>by rw[n,vF Z,if_neg C,f,vF hd,if_neg B]
 have D:o.eval (.tmp a)=A.eval (.tmp a):=t2 a j.ne.1 j.ne.2.1;have E:o.eval (.tmp c)=A.eval (.tmp c):=t2 c j.ne.2.2.1 j.ne.2.2.2;have H:o.eval (.tmp s)=goInt st:=by
  show o.tmps.getD s undef=_;rw[n,vF Z,if_pos rfl]
 have U:At keep G N Df M fr h' o w':=by
  refine⟨hr,λu x hu=>?_,by rw[n,f];simp[Act.put,at_.size],by rw[n,f];exact at_.plain⟩;obtain⟨O,k2⟩:=at_.fr u x hu;have n1:u≠d:=λe=>by rw[e,j.kd]at O;cases O
  have n2:u≠s:=λe=>by rw[e,j.ks]at O;cases O
  exact⟨O,by rw[t2 u n1 n2];exact k2⟩
 have fin:=ay8 (λe a v q=>iw.trans L q) _ _ _ (hk h' o w' U e2 L);rw[wpOps_cons];unfold wpOp;simp only[p1];rw[if_pos (by simp[c!,g1])];refine .inl ?_;unfold v!;rw[show(execOp A.eval o1).run P w=.ok (.value (.tuple #[z,goInt st])) S by unfold execOp;rw[q1];simp[r1]];simp only[k!];rw[d1,<-f,wpOps_cons];unfold wpOp;simp only[p2];rw[if_pos (by simp[c!,g2])];refine .inl ?_;unfold v!;rw[show(execOp p.eval o2).run P S=.ok (.value (goInt st)) S by unfold execOp;rw[q2];simp only[];rw[W];simp[Instr.extract]];simp only[k!];rw[d2,<-n,wpOps_cons];unfold wpOp;simp only[p3];rw[if_pos (by simp[c!,g3])];refine .inl ?_;unfold v!;rw[show(execOp o.eval o3).run P S=.ok .skip w' by unfold execOp;rw[q3];simp only[];rw[D,E,H];simp[r2]];simp only[k!];rw[d3];exact fin
def nEq(x:Operand)(t:Nat):Bool:=match x with| .tmp u=>d! u t|_=>false
def X7{x:Operand}{t:Nat}(h:nEq x t=true):x=.tmp t:=by
 unfold nEq at h;split at h
 ·rw[b! h]
 ·cases h
def dEq(x:Option Nat)(t:Nat):Bool:=match x with|some u=>d! u t|none=>false
def aEr{x:Option Nat}{t:Nat}(h:dEq x t=true):x=some t:=by
 unfold dEq at h;split at h
 ·rw[b! h]
 ·cases h
def aCK(keep:Nat->Bool)(N:Nat)(ops:Array Oper)(i:Nat)(t:TypeId)(a b c d s:Nat):Bool:=
 (match ops[i]? with|some o=>(match o.op,o.guard with| .mapEntry t' x y,none=>d! t' t&&(nEq x a&&(nEq y b&&dEq o.dst d))|_,_=>false)|none=>false)&&
 ((match ops[i+1]? with|some o=>(match o.op,o.guard with| .extract x n,none=>nEq x d&&(d! n 1&&dEq o.dst s)|_,_=>false)|none=>false)&&
 ((match ops[i+2]? with|some o=>(match o.op,o.guard,o.dst with| .entryStore t' x y z,none,none=>d! t' t&&(nEq x a&&(nEq y s&&nEq z c))|_,_,_=>false)|none=>false)&&
 ((Nat.blt d N&&Nat.blt s N)&&((!Nat.beq a d&&(!Nat.beq a s&&(!Nat.beq c d&&!Nat.beq c s)))&&(!keep d&&!keep s)))))
def aGZ{keep:Nat->Bool}{N:Nat}{ops:Array Oper}{i:Nat}{t:TypeId}{a b c d s:Nat}(h:aCK keep N ops i t a b c d s=true):Ent3 keep N ops i t a b c d s:=by
 unfold aCK at h;simp only[a!,y!,E!]at h;obtain⟨e,g,f,m,⟨n1,p,q,u⟩,k⟩:=h;refine⟨?_,?_,?_,m,⟨g! n1,g! p,g! q,g! u⟩,k.1,k.2⟩
 ·split at e
  ·rename_i o j;split at e
   ·rename_i t' x y e1 e2;simp only[a!]at e;exact⟨o,j,by rw[e1,b! e.1,X7 e.2.1,X7 e.2.2.1],aEr e.2.2.2,e2⟩
   ·cases e
  ·cases e
 ·split at g
  ·rename_i o j;split at g
   ·rename_i x n e1 e2;simp only[a!]at g;exact⟨o,j,by rw[e1,X7 g.1,b! g.2.1],aEr g.2.2,e2⟩
   ·cases g
  ·cases g
 ·split at f
  ·rename_i o j;split at f
   ·rename_i t' x y z e1 e2 l;simp only[a!]at f;exact⟨o,j,by rw[e1,b! f.1,X7 f.2.1,X7 f.2.2.1,X7 f.2.2.2],l,e2⟩
   ·cases f
  ·cases f
def apz{α e:Type}{f:α->Option e}:∀{l:List α},(∀x∈l,(f x).isSome=true)->∀i,(l.take i).filterMap f=(l.filterMap f).take i/\(l.drop i).filterMap f=(l.filterMap f).drop i
 | [],_,i=>by simp
 |x::l,h,0=>by simp
 |x::l,h,i+1=>by
  obtain⟨y,c⟩:=Option.isSome_iff_exists.1 (h x (by simp));obtain⟨a,b⟩:=apz (l:=l) (λz d=>h z (by simp[d])) i;rw[q!,r!,j! c,j! c,q!,r!,a,b];exact⟨rfl,rfl⟩
def aN4(P:Program)(keep:Nat->Bool)(e:FuncId->Option Fun)(ops:Array Oper)(i:Nat)(t:TypeId)(a b c:Nat)(fr:F)(h:Hp):Out:=
 aeA P keep e ops (λ_ fr h=>aCJ P t a b c fr h λfr h=>ou P keep e ops (ops.toList.drop (i+3)) [] fr h) (ops.toList.take i) [] fr h
def dS.ent{keep:Nat->Bool}{N:Nat}{e:FuncId->Option Fun}(C:∀f F,e f=some F->aH P G f F){id:Nat}{ops:Array Oper}(g:∀o∈ops.toList,nZ G N o=true){i:Nat}{t:TypeId}{a b c d s:Nat}(u:Ent3 keep N ops i t a b c d s):
  dS P keep G N (.region id ops false) (aN4 P keep e ops i t a b c):=by
 intro ro n Df fr h M A w k at_;refine wpIn_region (atx (λ_ _ _ h=>h) iw.amj (λo p=>qH (g o p)) _ _ _ ?_);have hi:i+2<ops.size:=by obtain⟨o,p,_⟩:=u.o3;exact(n!.1 p).1
 have hl:h! ops.size=(h! ops.size).take i++(i::(i+1)::(i+2)::(h! ops.size).drop (i+3)):=by
  have B:(h! ops.size).drop i=i::(i+1)::(i+2)::(h! ops.size).drop (i+3):=by
   rw[i! (by simp;omega),i! (by simp;omega),i! (by simp;omega)];simp
  rw[<-B,List.take_append_drop]
 have D:∀x∈h! ops.size,(ops[x]?).isSome=true:=λx H=>by rw[p! (o!.1 H)];rfl
 obtain⟨z,-⟩:=apz (f:=(ops[·]?)) D i;obtain⟨-,y⟩:=apz (f:=(ops[·]?)) D (i+3);rw[aeI]at z y;rw[hl];refine aIQ C g k (kk:=λ_ fr h=>aCJ P t a b c fr h λfr h=>ou P keep e ops (ops.toList.drop (i+3)) [] fr h) ?_ ((h! ops.size).take i) [] fr h M A w (λj hj=>o!.1 (List.mem_of_mem_take hj)) at_ (jY.nil M A) (by rw[z];rfl);intro env m B v J K at1 _ e1;exact aJE u k at1 e1 λE q I l e2 _=>aoZ C g k _ [] m E v q I (λj hj=>o!.1 (List.mem_of_mem_drop hj)) l (jY.nil v q) (by rw[y];exact e2)
def Ud(e:Nat)(f:F->Hp->Out)(X:Code->F->Hp->Out)(lf:Nat):Code->F->Hp->Out
 | .region id ops d=>(match d! id e with|true=>f|false=>X (.region id ops d))
 | .seq a b=>aC (Ud e f X lf a) (Ud e f X lf b)
 | .cond c a b=>aT c (Ud e f X lf a) (Ud e f X lf b)
 | .block id b=>bI id (Ud e f X lf b)
 | .loop b=>dI (Ud e f X lf b) lf
 | .scope b=>Ud e f X lf b
 |c=>X c
def regs(c:Nat):Code->List (Array Oper×Bool)
 | .region id ops d=>(match d! id c with|true=> [(ops,d)]|false=> [])
 | .seq a b=>regs c a++regs c b
 | .cond _ a b=>regs c a++regs c b
 | .block _ b=>regs c b
 | .loop b=>regs c b
 | .scope b=>regs c b
 |_=> []
def FT{keep:Nat->Bool}{N j:Nat}{k:F->Hp->Out}{X:Code->F->Hp->Out}(lf:Nat)(e:∀c,codeOk G N c=true->dS P keep G N c (X c)):(c:Code)->codeOk G N c=true->(∀p∈regs j c,dS P keep G N (.region j p.1 p.2) k)->dS P keep G N c (Ud j k X lf c)
 | .skip,h,_=>e _ h
 | .label _,h,_=>e _ h
 | .region id ops d,h,f=>by
  unfold Ud;split
  ·rename_i hb;have:=b! hb;subst this;exact f (ops,d) (by unfold regs;rw[hb];simp)
  ·exact e _ h
 | .seq a b,h,f=>by
  simp only[codeOk,a!]at h;exact .seq (FT lf e a h.1 λp i=>f p (by unfold regs;simp[i])) (FT lf e b h.2 λp i=>f p (by unfold regs;simp[i]))
 | .cond c a b,h,f=>by
  simp only[codeOk,a!]at h;simp only[Ud,apF];refine .cond (λg l=>?_) (FT lf e a h.2.1 λp i=>f p (by unfold regs;simp[i])) (FT lf e b h.2.2 λp i=>f p (by unfold regs;simp[i]));subst l;simpa[E!]using h.1
 | .block id b,h,f=>.block (FT lf e b h f)
 | .loop b,h,f=>.loop (FT lf e b h f) lf
 | .scope b,h,f=>.scope (FT lf e b h f)
 | .exit _,h,_=>e _ h
 | .ret,h,_=>e _ h
 | .goto _,h,_=>e _ h
 | .rangeFunc ..,h,_=>e _ h
 | .refuse _,h,_=>e _ h
def aGL(P:Program)(G:Nat)(keep:Nat->Bool)(e:FuncId->Option Fun)(pl:bQ)(lf d:Nat)(i:Nat)(t:TypeId)(a b c:Nat)(fn:Func):Fun:=
 match regs d (codeOf fn) with
 |p::_=>aY P keep fn.ntmps fn.results.toList (Ud d (aN4 P keep e p.1 i t a b c) (nP P G fn.ntmps keep e pl lf) lf (codeOf fn))
 | []=>λ_ _=>.bad
def aIj(G:Nat)(keep:Nat->Bool)(e i:Nat)(t:TypeId)(a b c d s:Nat)(fn:Func):Bool:=ahn G fn&&(match regs e (codeOf fn) with
 |(ops,false):: []=>ops.toList.all (nZ G fn.ntmps)&&aCK keep fn.ntmps ops i t a b c d s
 |_=>false)
def aJq(y:P.follows .mixedOrders=true){keep:Nat->Bool}{e:FuncId->Option Fun}{pl:bQ}{lf k i:Nat}{t:TypeId}{a b c d s:Nat}{f:FuncId}{fn:Func}(v:∀f F,e f=some F->aH P G f F)(x:P.funcs[f]?=some fn)(l:aIj G keep k i t a b c d s fn=true):
  aH P G f (aGL P G keep e pl lf k i t a b c fn):=by
 unfold aIj at l;simp only[a!]at l;obtain⟨g,j⟩:=l;unfold aGL;split at j
 ·rename_i ops q;simp only[a!,List.all_eq_true]at j;rw[q];unfold ahn at g;cases hb:fn.body with
  |none=>rw[hb]at g;simp at g
  |some u=>
   rw[hb]at g;simp only[a!,y!]at g;have m:codeOf fn=u:=by unfold codeOf;rw[hb];rfl
   rw[m]at q⊢;refine apH x g.2 hb (FT lf (λc m=>dY y v pl lf c m) u g.1 λp n=>?_);rw[q]at n;simp at n;subst n;exact dS.ent v (λo g=>j.1 o g) (aGZ j.2)
 ·cases j
end
end Go.Vm
