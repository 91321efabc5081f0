/- Lemmas that the claim's last text uses. No conditions. -/
import Derived.Test.YtpgppmioigacoaaGreatDoorSAH
import Derived.Test.YtpgppmioigacoaaGreatDoorSAQ
import Derived.Test.YtpgppmioigacoaaGreatDoorSAJ
set_option linter.all false
set_option maxHeartbeats 4000000
set_option maxRecDepth 100000
open Go.Vm.Out renaming nor→a!,ret→c!
open Go.Proofs.Tryz renaming prog→b!
open Go.Vm.V renaming int→Y,bool→K,str→H
open Go.IntKind renaming i64→U
noncomputable section
open Go Go.Proofs Go.Vm
namespace Go.Proofs.Im
abbrev tBd:TypeId:=141
abbrev tA:TypeId:=145
abbrev tRq:TypeId:=143
abbrev tCn:TypeId:=119
abbrev JW:TypeId:=62
abbrev aEV:TypeId:=122
abbrev aET:TypeId:=94
abbrev Bq:TypeId:=149
abbrev tSS:TypeId:=26
abbrev tSt:TypeId:=78
abbrev tLg:TypeId:=130
abbrev tBx:TypeId:=55
abbrev tMl:TypeId:=40
abbrev tEn:TypeId:=85
abbrev tMb:TypeId:=106
abbrev lT:TypeId:=9
abbrev fZ:TypeId:=3
abbrev tVw:TypeId:=246
abbrev tVm:TypeId:=248
abbrev tTh:TypeId:=250
abbrev tMs:TypeId:=200
abbrev tPr:TypeId:=138
abbrev oC:TypeId:=98
abbrev tRs:TypeId:=96
abbrev tPs:TypeId:=24
abbrev tTs:TypeId:=242
abbrev tBs:TypeId:=22
abbrev tBl:TypeId:=4
abbrev tIs:TypeId:=36
abbrev tAt:TypeId:=75
abbrev tAs:TypeId:=406
abbrev tFl:TypeId:=263
abbrev MH:Nat:=47
abbrev aLi:Nat:=52
abbrev aLk:Nat:=57
abbrev aAg:Nat:=58
abbrev aLj:Nat:=59
abbrev aEU:Nat:=60
abbrev ajS:Nat:=61
abbrev ahF:Nat:=62
abbrev alk:Nat:=63
abbrev asw:Nat:=64
abbrev ali:Nat:=65
abbrev asv:Nat:=66
abbrev alg:Nat:=67
abbrev alm:Nat:=68
abbrev ap6:Nat:=69
abbrev ahE:Nat:=70
abbrev alh:Nat:=71
abbrev ap5:Nat:=72
abbrev UR:Nat:=73
abbrev asx:Nat:=74
abbrev asu:Nat:=75
abbrev ap4:Nat:=77
abbrev ap7:Nat:=79
abbrev Cj:Nat:=102
abbrev awo:Nat:=104
abbrev ZL:Nat:=155
abbrev Gf:Nat:=156
abbrev P9:Nat:=158
abbrev ast:Nat:=169
abbrev ahD:Nat:=174
abbrev Ci:Nat:=176
abbrev zG:Nat:=178
abbrev asy:Nat:=208
abbrev aNx:Nat:=217
abbrev aNw:Nat:=218
abbrev abZ:Nat:=222
abbrev ajR:Nat:=225
abbrev alj:Nat:=250
abbrev aOn:Nat:=256
abbrev Wp:Nat:=284
abbrev RQ:Nat:=290
abbrev ad6:Nat:=301
abbrev axQ:Nat:=329
def awk:Fun:=X9 U
theorem aNp:aG b! aJ 166 awk:=amf Tryz.func166 kR kR kR U kR
def Lm:Fun:=aaC U
theorem apF:aG b! aJ 101 Lm:=awT Tryz.func101 kR kR kR U kR
def Jl:Fun:=MR
theorem anU:aG b! aJ 108 Jl:=aeK Tryz.func108 kR kR kR kR
def avw:=rC 4 (Y U 0)
def avv:Rg:=λf h=>gtO (ge 0 f) λa=>aA (aP a h) λb c=>aA (aC 0 b c) λd i=>gtO (ge 1 f) λj=>aA (awk [d,j] i) λm n=>a! (ss 4 m f) n
def avC:Rg:=(aB avw (aB avv c!))
def ZE:Fun:=bD b! (kp [0,1,4]) Tryz.f84.ntmps [.tmp 4] avC
theorem aEG(x0 x1:V)(h:Hp):ZE [x0,x1] h=aU b! [.tmp 4] (avC (ss 1 x1 (ss 0 x0 T.nil)) h):=kR
theorem aEy:aG b! aJ 84 ZE:=prX aN [] [] (aV aNp bF) Tryz.func84
def ajD:=rC 2 (Y U 0)
def ajC:Rg:=λf h=>gtO (ge 0 f) λa=>aA (aP a h) λb c=>aA (aC 0 b c) λd i=>aA (Lm [d] i) λj m=>a! (ss 2 j f) m
def agn:Rg:=(aB ajD (aB ajC c!))
def wH:Fun:=bD b! (kp [0,2]) Tryz.f44.ntmps [.tmp 2] agn
theorem awh(x0:V)(h:Hp):wH [x0] h=aU b! [.tmp 2] (agn (ss 0 x0 T.nil) h):=kR
theorem VS:aG b! aJ 44 wH:=prX aN [] [] (aV apF bF) Tryz.func44
def afT:Rg:=λf h=>gtO (ge 0 f) λa=>aA (aP a h) λb c=>aA (aC 0 b c) λd i=>gtO (ge 1 f) λj=>aA (Jl [d,j] i) λm n=>a! f n
def abw:Rg:=afT
def mQ:Fun:=bD b! (kp [0,1]) Tryz.f56.ntmps [] abw
theorem arN(x0 x1:V)(h:Hp):mQ [x0,x1] h=aU b! [] (abw (ss 1 x1 (ss 0 x0 T.nil)) h):=kR
theorem IZ:aG b! aJ 56 mQ:=prX aN [] [] (aV anU bF) Tryz.func56
def avt:=rC 2 (H [])
def avr:Rg:=λf h=>gtO (ge 0 f) λa=>aA (aZ 1 a h) λb c=>aA (wR 5 1 [(Y .u8 0)] (Y U 0) b c) λd i=>a! (ss 3 d f) i
def avq:Rg:=λf h=>gtO (ge 0 f) λa=>aA (aZ 1 a h) λb c=>a! (ss 11 (Y U 0) (ss 10 b f)) c
def Uj:=r2 12 11 10 λa b h=>aI .lss .none a b h
def aa6:=rM 4 11
def aa5:=r2 5 0 4 λa b h=>kG a b h
def aa4:Rg:=λf h=>gtO (ge 5 f) λa=>aA (aI .geq .none a (Y .u8 65) h) λb c=>ifB b (aA (aI .leq .none a (Y .u8 90) c) λd i=>a! (ss 22 d f) i) (a! (ss 22 (K false) f) c)
def aa3:=r1 5 5 λa h=>aI .add .none a (Y .u8 32) h
def aa2:Rg:=λf h=>gtO (ge 3 f) λa=>gtO (ge 5 f) λb=>aA (bJ 5 [(Y .u8 0)] 1 [(0,1,b)] h) λc d=>aA (bK 5 1 1 a c d) λi j=>a! (ss 3 i f) j
def aa1:=r1 11 11 λa h=>aI .add .none a (Y U 1) h
def aqY:Rg:=λf h=>gtO (ge 3 f) λa=>aA (zJ a h) λb c=>a! (ss 2 b f) c
def UA:Rg:=(aB Uj (aB (aT (.tmp 12) a! (Out.ex 0)) (aB (bG 1 (aB aa6 (aB aa5 (aB (aB aa4 (aT (.tmp 22) aa3 a!)) aa2)))) aa1)))
def avz:Rg:=(aB avt (aB avr (aB (aB avq (bG 0 (dH UA lf))) (aB aqY c!))))
def yh:Fun:=bD b! (kp [0,2,3,4,5,10,11,12,22]) Tryz.f95.ntmps [.tmp 2] avz
theorem aEF(x0:V)(h:Hp):yh [x0] h=aU b! [.tmp 2] (avz (ss 0 x0 T.nil) h):=kR
theorem Zt:aG b! aJ 95 yh:=prX aN [] [] bF Tryz.func95
def xK:Fun:=atU
theorem abA:aG b! aJ 289 xK:=aoH Tryz.func289 kR kR kR kR
def Tt:=rC 4 (Y U 0)
def Tq:=r2 4 0 1 λa b h=>xK [a,b] h
def KX:Rg:=(aB Tt (aB Tq c!))
def Bc:Fun:=bD b! (kp [0,1,4]) Tryz.f184.ntmps [.tmp 4] KX
theorem ahv(x0 x1:V)(h:Hp):Bc [x0,x1] h=aU b! [.tmp 4] (KX (ss 1 x1 (ss 0 x0 T.nil)) h):=kR
theorem apA:aG b! aJ 184 Bc:=prX aN [] [] (aV abA bF) Tryz.func184
def TK:=rC 4 (Y U 0)
def TJ:=r2 4 0 1 λa b h=>Bc [a,b] h
def KY:Rg:=(aB TK (aB TJ c!))
def Bf:Fun:=bD b! (kp [0,1,4]) Tryz.f107.ntmps [.tmp 4] KY
theorem ahw(x0 x1:V)(h:Hp):Bf [x0,x1] h=aU b! [.tmp 4] (KY (ss 1 x1 (ss 0 x0 T.nil)) h):=kR
theorem apB:aG b! aJ 107 Bf:=prX aN [] [] (aV apA bF) Tryz.func107
def aii:=rC 2 (K false)
def aif:Rg:=λf h=>gtO (ge 0 f) λa=>aA (aZ 1 a h) λb c=>a! (ss 6 (Y U 0) (ss 5 b f)) c
def aie:=r2 7 6 5 λa b h=>aI .lss .none a b h
def CJ:=rM 3 6
def CG:Rg:=λf h=>gtO (ge 0 f) λa=>gtO (ge 3 f) λb=>aA (kG a b h) λc d=>aA (aI .lss .none c (Y .u8 33) d) λi j=>ifB i (a! (ss 25 (K true) f) j) (aA (kG a b j) λm n=>aA (aI .gtr .none m (Y .u8 126) n) λo p=>ifB o (a! (ss 25 (K true) f) p) (aA (kG a b p) λq r=>aA (Bf [(H [40,41,123,125,37,42,34,92,93]),q] r) λs t=>aA (aI .geq .none s (Y U 0) t) λu v=>a! (ss 25 u f) v))
def LQ:=rC 2 (K false)
def aid:=r1 6 6 λa h=>aI .add .none a (Y U 1) h
def aic:=r1 2 0 λa h=>aI .neq .none a (H []) h
def ajK:Rg:=(aB aie (aB (aT (.tmp 7) a! (Out.ex 0)) (aB (bG 1 (aB CJ (aB CG (aT (.tmp 25) (aB LQ c!) a!)))) aid)))
def VJ:Rg:=(aB aii (aB (aB aif (bG 0 (dH ajK lf))) (aB aic c!)))
def wG:Fun:=bD b! (kp [0,2,3,5,6,7,25]) Tryz.f54.ntmps [.tmp 2] VJ
theorem avT(x0:V)(h:Hp):wG [x0] h=aU b! [.tmp 2] (VJ (ss 0 x0 T.nil) h):=kR
theorem aq1:aG b! aJ 54 wG:=prX aN [] [] (aV apB bF) Tryz.func54
def zh:=rC 2 .aO
def zf:=r1 4 0 λa h=>aI .eql .slice a .aO h
def U8:=rC 2 .aO
def IC:Rg:=λf h=>aA (aou 3 h) λa b=>gtO (ge 0 f) λc=>aA (bK 3 1 8 a c b) λd i=>a! (ss 2 d f) i
def xX:Rg:=(aB zh (aB (aB zf (aT (.tmp 4) (aB U8 c!) a!)) (aB IC c!)))
def yc:Fun:=bD b! (kp [0,2,4]) Tryz.f86.ntmps [.tmp 2] xX
theorem ak4(x0:V)(h:Hp):yc [x0] h=aU b! [.tmp 2] (xX (ss 0 x0 T.nil) h):=kR
theorem adD:aG b! aJ 86 yc:=prX aN [] [] bF Tryz.func86
def zk:=rC 2 .aO
def zi:=r1 4 0 λa h=>aI .eql .slice a .aO h
def U9:=rC 2 .aO
def IE:Rg:=λf h=>aA (aou 55 h) λa b=>gtO (ge 0 f) λc=>aA (bK 55 6 56 a c b) λd i=>a! (ss 2 d f) i
def xY:Rg:=(aB zk (aB (aB zi (aT (.tmp 4) (aB U9 c!) a!)) (aB IE c!)))
def Ec:Fun:=bD b! (kp [0,2,4]) Tryz.f53.ntmps [.tmp 2] xY
theorem ak5(x0:V)(h:Hp):Ec [x0] h=aU b! [.tmp 2] (xY (ss 0 x0 T.nil) h):=kR
theorem arA:aG b! aJ 53 Ec:=prX aN [] [] bF Tryz.func53
def pI:=rC 2 .aO
def pG:=r1 4 0 λa h=>aI .eql .slice a .aO h
def BN:=rC 2 .aO
def BM:Rg:=λf h=>aA (aou 85 h) λa b=>gtO (ge 0 f) λc=>aA (bK 85 4 32 a c b) λd i=>a! (ss 2 d f) i
def oO:Rg:=(aB pI (aB (aB pG (aT (.tmp 4) (aB BN c!) a!)) (aB BM c!)))
def oQ:Fun:=bD b! (kp [0,2,4]) Tryz.f422.ntmps [.tmp 2] oO
theorem Oo(x0:V)(h:Hp):oQ [x0] h=aU b! [.tmp 2] (oO (ss 0 x0 T.nil) h):=kR
theorem anR:aG b! aJ 422 oQ:=prX aN [] [] bF Tryz.func422
def tY:=rC 2 .aO
def tX:=r1 4 0 λa h=>aI .eql .slice a .aO h
def NR:=rC 2 .aO
def Ag:Rg:=λf h=>aA (aou 106 h) λa b=>gtO (ge 0 f) λc=>aA (bK 106 2 16 a c b) λd i=>a! (ss 2 d f) i
def qL:Rg:=(aB tY (aB (aB tX (aT (.tmp 4) (aB NR c!) a!)) (aB Ag c!)))
def xJ:Fun:=bD b! (kp [0,2,4]) Tryz.f100.ntmps [.tmp 2] qL
theorem adX(x0:V)(h:Hp):xJ [x0] h=aU b! [.tmp 2] (qL (ss 0 x0 T.nil) h):=kR
theorem akZ:aG b! aJ 100 xJ:=prX aN [] [] bF Tryz.func100
def tN:=rC 2 .aO
def tK:=r1 4 0 λa h=>aI .eql .slice a .aO h
def NQ:=rC 2 .aO
def Af:Rg:=λf h=>aA (aou 9 h) λa b=>gtO (ge 0 f) λc=>aA (bK 9 1 16 a c b) λd i=>a! (ss 2 d f) i
def qK:Rg:=(aB tN (aB (aB tK (aT (.tmp 4) (aB NQ c!) a!)) (aB Af c!)))
def qO:Fun:=bD b! (kp [0,2,4]) Tryz.f81.ntmps [.tmp 2] qK
theorem adW(x0:V)(h:Hp):qO [x0] h=aU b! [.tmp 2] (qK (ss 0 x0 T.nil) h):=kR
theorem Uy:aG b! aJ 81 qO:=prX aN [] [] bF Tryz.func81
def BL:=rC 2 .aO
def BK:Rg:=λf h=>gtO (ge 0 f) λa=>aA (aZ 2 a h) λb c=>aA (aI .lss .none b (Y U 2) c) λd i=>a! (ss 8 d f) i
def PK:=rM 2 0
def PI:=rC 3 (Y U 1)
def BJ:Rg:=λf h=>gtO (ge 3 f) λa=>gtO (ge 0 f) λb=>aA (aZ 2 b h) λc d=>aA (aI .lss .none a c d) λi j=>a! (ss 13 i f) j
def PE:Rg:=λf h=>gtO (ge 0 f) λa=>gtO (ge 3 f) λb=>aA (aX 1 a b (aH 0 h)) λc _=>aA (aF c (aH 0 h)) λd _=>gtO (ge 0 f) λi=>gtO (ge 3 f) λj=>aA (aI .sub .none j (Y U 1) (aH 0 h)) λm _=>aA (aX 1 i m (aH 0 h)) λn _=>aA (aF n (aH 0 h)) λo _=>aA (aI .eql .none d o (aH 0 h)) λp _=>a! (ss 25 p f) (aH 0 h)
def PG:=r1 3 3 λa h=>aI .add .none a (Y U 1) h
def NP:=rM 2 0
def aEN:Rg:=zz
def Cc:Rg:=(aB (aB BJ (aT (.tmp 13) a! (Out.ex 0))) (aB (bG 1 (aB PE (aT (.tmp 25) zz a!))) PG))
def uH:Rg:=(aB BL (aB (aB BK (aT (.tmp 8) (aB PK c!) a!)) (aB (aB PI (bG 0 (dH Cc lf))) (aB NP c!))))
def oP:Fun:=bD b! (kp [0,2,3,4,5,8,13,25,32,44]) Tryz.f88.ntmps [.tmp 2] uH
theorem Om(x0:V)(h:Hp):oP [x0] h=aU b! [.tmp 2] (uH (ss 0 x0 T.nil) h):=kR
theorem VR:aG b! aJ 88 oP:=prX aN [7,8,9,11,12,13,10,14,15] [(6,[0,0,3,7,0,0,32,112,240,511],gm [0,16,32,51,64,80,96,112,131,144])] bF Tryz.func88
def IB:=rC 2 .aO
def IA:Rg:=λf h=>gtO (ge 0 f) λa=>aA (aZ 2 a h) λb c=>aA (aI .lss .none b (Y U 2) c) λd i=>a! (ss 8 d f) i
def Iz:=rM 2 0
def aBX:Rg:=zz
def aBY:Rg:=zz
def Aw:Rg:=(aB IB (aB (aB IA (aT (.tmp 8) (aB Iz c!) a!)) zz))
def uM:Fun:=bD b! (kp [0,2,3,4,5,8,13,25,32,44]) Tryz.f83.ntmps [.tmp 2] Aw
theorem ZA(x0:V)(h:Hp):uM [x0] h=aU b! [.tmp 2] (Aw (ss 0 x0 T.nil) h):=kR
theorem agw:aG b! aJ 83 uM:=prX aN [3,4,6,7,8,9,11,12,13,10,14,15,5,16] [] bF Tryz.func83
def aiL:Rg:=λf h=>gtO (ge 0 f) λa=>aA (fO 55 a h) λb c=>a! (ss 3 (K false) (ss 2 b f)) c
def aiK:Rg:=λf h=>gtO (ge 2 f) λa=>aA (aC 0 a h) λb c=>aA (aF b c) λd i=>gtO (ge 1 f) λj=>aA (aF j i) λm n=>aA (aI .eql .none d m n) λo p=>a! (ss 3 o f) p
def agc:Rg:=(aB aiL (aB aiK c!))
def Oj:Fun:=bD b! (kp [0,1,2,3]) Tryz.f169.ntmps [.tmp 3] agc
theorem av2(x0 x1:V)(h:Hp):Oj [x0,x1] h=aU b! [.tmp 3] (agc (ss 1 x1 (ss 0 x0 T.nil)) h):=kR
theorem aEk:aG b! aJ 169 Oj:=prX aN [] [] bF Tryz.func169
def aju:Rg:=λf h=>gtO (ge 0 f) λa=>aA (fO 55 a h) λb c=>a! (ss 3 (K false) (ss 2 b f)) c
def ajt:Rg:=λf h=>gtO (ge 2 f) λa=>aA (aC 0 a h) λb c=>aA (aF b c) λd i=>gtO (ge 1 f) λj=>aA (aF j i) λm n=>aA (aI .eql .none d m n) λo p=>a! (ss 3 o f) p
def agl:Rg:=(aB aju (aB ajt c!))
def Oq:Fun:=bD b! (kp [0,1,2,3]) Tryz.f208.ntmps [.tmp 3] agl
theorem awf(x0 x1:V)(h:Hp):Oq [x0,x1] h=aU b! [.tmp 3] (agl (ss 1 x1 (ss 0 x0 T.nil)) h):=kR
theorem aEw:aG b! aJ 208 Oq:=prX aN [] [] bF Tryz.func208
def ah9:Rg:=λf h=>gtO (ge 0 f) λa=>aA (fO 55 a h) λb c=>a! (ss 3 (K false) (ss 2 b f)) c
def ah8:Rg:=λf h=>gtO (ge 2 f) λa=>aA (aC 0 a h) λb c=>aA (aF b c) λd i=>gtO (ge 1 f) λj=>aA (aF j i) λm n=>aA (aI .eql .none d m n) λo p=>a! (ss 3 o f) p
def af7:Rg:=(aB ah9 (aB ah8 c!))
def Oe:Fun:=bD b! (kp [0,1,2,3]) Tryz.f290.ntmps [.tmp 3] af7
theorem avS(x0 x1:V)(h:Hp):Oe [x0,x1] h=aU b! [.tmp 3] (af7 (ss 1 x1 (ss 0 x0 T.nil)) h):=kR
theorem aEf:aG b! aJ 290 Oe:=prX aN [] [] bF Tryz.func290
def U7:Rg:=λf h=>gtO (ge 0 f) λa=>aA (fO 55 a h) λb c=>a! (ss 3 (K false) (ss 2 b f)) c
def U6:Rg:=λf h=>gtO (ge 2 f) λa=>aA (aC 0 a h) λb c=>aA (aF b c) λd i=>gtO (ge 1 f) λj=>aA (aF j i) λm n=>aA (aI .eql .none d m n) λo p=>a! (ss 3 o f) p
def Pj:Rg:=(aB U7 (aB U6 c!))
def x9:Fun:=bD b! (kp [0,1,2,3]) Tryz.f301.ntmps [.tmp 3] Pj
theorem ak3(x0 x1:V)(h:Hp):x9 [x0,x1] h=aU b! [.tmp 3] (Pj (ss 1 x1 (ss 0 x0 T.nil)) h):=kR
theorem arz:aG b! aJ 301 x9:=prX aN [] [] bF Tryz.func301
def kP:FuncId->Option Fun:=rF [(169,Oj),(208,Oq),(290,Oe),(301,x9)]
def JG:=rC 4 (Y U 0)
def JF:Rg:=λf h=>gtO (ge 0 f) λa=>aA (aZ 2 a h) λb c=>a! (ss 8 (Y U 0) (ss 7 b f)) c
def JE:=r2 9 8 7 λa b h=>aI .lss .none a b h
def JD:=rM 5 8
def JC:Rg:=λf h=>gtO (ge 1 f) λa=>gtO (ge 0 f) λb=>gtO (ge 5 f) λc=>aA (aX 6 b c h) λd i=>aA (bT 6 d i) λj m=>aA (dI kP a [j] m) λn o=>a! (ss 16 n f) o
def JB:=rM 4 5
def JA:=r1 8 8 λa h=>aI .add .none a (Y U 1) h
def Jz:=rC 4 (Y U (-1))
def JU:Rg:=(aB JE (aB (aT (.tmp 9) a! (Out.ex 0)) (aB (bG 1 (aB JD (aB JC (aT (.tmp 16) (aB JB c!) a!)))) JA)))
def vF:Rg:=(aB JG (aB (aB JF (bG 0 (dH JU lf))) (aB Jz c!)))
def kQ:Fun:=bD b! (kp [0,1,4,5,7,8,9,16]) Tryz.f168.ntmps [.tmp 4] vF
theorem abN(x0 x1:V)(h:Hp):kQ [x0,x1] h=aU b! [.tmp 4] (vF (ss 1 x1 (ss 0 x0 T.nil)) h):=kR
theorem vG:aG b! aJ 168 kQ:=prX aN [] [] (aV aEk (aV aEw (aV aEf (aV arz bF)))) Tryz.func168
def anc:Rg:=λf h=>gtO (ge 1 f) λa=>aA (fO 3 a h) λb c=>a! (ss 4 (Y U 0) (ss 3 b f)) c
def anb:Rg:=λf h=>gtO (ge 0 f) λa=>aA (aP a h) λb c=>aA (aC 10 b c) λd i=>aA (aF d i) λj m=>gtO (ge 3 f) λn=>aA (fC (.func 169) [] [n] m) λo p=>aA (kQ [j,o] p) λq r=>a! (ss 4 q f) r
def akR:Rg:=(aB anc (aB anb c!))
def EG:Fun:=bD b! (kp [0,1,3,4]) Tryz.f89.ntmps [.tmp 4] akR
theorem axy(x0 x1:V)(h:Hp):EG [x0,x1] h=aU b! [.tmp 4] (akR (ss 1 x1 (ss 0 x0 T.nil)) h):=kR
theorem abx:aG b! aJ 89 EG:=prX aN [] [] (aV vG bF) Tryz.func89
def aeT:=rC 4 (K false)
def aeS:Rg:=λf h=>gtO (ge 0 f) λa=>gtO (ge 1 f) λb=>aA (EG [a,b] (aH 0 h)) λc d=>gtO (ge 0 f) λi=>aA (aP i d) λj _=>aA (aC 10 j d) λm _=>aA (aF m d) λn _=>chk (λh=>aF m h) n ( aA (aX 6 n c d) λo _=>aA (aC 4 o d) λp _=>aA (aF p d) λq _=>gtO (ge 0 f) λr=>aA (aP r d) λs _=>aA (aC 0 s d) λt _=>aA (aC 5 t d) λu _=>aA (aF u d) λv _=>chk (λh=>aF u h) v ( aA (aI .gtr .none q v d) λw _=>a! (ss 4 w f) d) 1 [(aH 0 h)]) 1 [(aH 0 h)]
def abe:Rg:=(aB aeT (aB aeS c!))
def Jh:Fun:=bD b! (kp [0,1,4]) Tryz.f47.ntmps [.tmp 4] abe
theorem arB(x0 x1:V)(h:Hp):Jh [x0,x1] h=aU b! [.tmp 4] (abe (ss 1 x1 (ss 0 x0 T.nil)) h):=kR
theorem aBL:aG b! aJ 47 Jh:=prX aN [] [(1,[0,1,3,7,0,0,48,127,255,511,0,1024,3072,7168,15360,32767,65535],gm [64,80,98,0,16,32,52,112,128,147,160,176,192,208,228,240,256])] (aV abx bF) Tryz.func47
def YM:=rC 3 (K false)
def YL:Rg:=λf h=>gtO (ge 1 f) λa=>aA (aF a h) λb c=>gtO (ge 0 f) λd=>aA (EG [b,d] c) λi j=>aA (aI .lss .none i (Y U 0) j) λm n=>a! (ss 3 m f) n
def Us:Rg:=(aB YM (aB YL c!))
def AA:Fun:=bD b! (kp [0,1,3]) Tryz.f102.ntmps [.tmp 3] Us
theorem an5(x0 x1:V)(h:Hp):AA [x0,x1] h=aU b! [.tmp 3] (Us (ss 1 x1 (ss 0 x0 T.nil)) h):=kR
theorem avG:aG b! aJ 102 AA:=prX aN [] [] (aV abx bF) Tryz.func102
def pO:FuncId->Option Fun:=rF [(47,Jh),(102,AA)]
def Jy:=rC 4 (Y U 0)
def Jw:Rg:=λf h=>gtO (ge 0 f) λa=>aA (aZ 2 a h) λb c=>a! (ss 8 (Y U 0) (ss 7 b f)) c
def Jv:=r2 9 8 7 λa b h=>aI .lss .none a b h
def Ju:=rM 5 8
def Jt:Rg:=λf h=>gtO (ge 1 f) λa=>gtO (ge 0 f) λb=>gtO (ge 5 f) λc=>aA (aX 1 b c h) λd i=>aA (aF d i) λj m=>aA (dI pO a [j] m) λn o=>a! (ss 16 n f) o
def Js:=rM 4 5
def Jr:=r1 8 8 λa h=>aI .add .none a (Y U 1) h
def Jq:=rC 4 (Y U (-1))
def JS:Rg:=(aB Jv (aB (aT (.tmp 9) a! (Out.ex 0)) (aB (bG 1 (aB Ju (aB Jt (aT (.tmp 16) (aB Js c!) a!)))) Jr)))
def vC:Rg:=(aB Jy (aB (aB Jw (bG 0 (dH JS lf))) (aB Jq c!)))
def vH:Fun:=bD b! (kp [0,1,4,5,7,8,9,16]) Tryz.f103.ntmps [.tmp 4] vC
theorem abM(x0 x1:V)(h:Hp):vH [x0,x1] h=aU b! [.tmp 4] (vC (ss 1 x1 (ss 0 x0 T.nil)) h):=kR
theorem aht:aG b! aJ 103 vH:=prX aN [] [] (aV aBL (aV avG bF)) Tryz.func103
def CZ:=rC 4 (K false)
def CY:Rg:=λf h=>gtO (ge 0 f) λa=>gtO (ge 1 f) λb=>aA (vH [a,b] h) λc d=>aA (aI .geq .none c (Y U 0) d) λi j=>a! (ss 4 i f) j
def xw:Rg:=(aB CZ (aB CY c!))
def jD:Fun:=bD b! (kp [0,1,4]) Tryz.f46.ntmps [.tmp 4] xw
theorem UM(x0 x1:V)(h:Hp):jD [x0,x1] h=aU b! [.tmp 4] (xw (ss 1 x1 (ss 0 x0 T.nil)) h):=kR
theorem IY:aG b! aJ 46 jD:=prX aN [] [] (aV aht bF) Tryz.func46
def Dp:=rC 4 (K false)
def C9:Rg:=λf h=>gtO (ge 0 f) λa=>gtO (ge 1 f) λb=>aA (kQ [a,b] h) λc d=>aA (aI .geq .none c (Y U 0) d) λi j=>a! (ss 4 i f) j
def xA:Rg:=(aB Dp (aB C9 c!))
def mP:Fun:=bD b! (kp [0,1,4]) Tryz.f190.ntmps [.tmp 4] xA
theorem UN(x0 x1:V)(h:Hp):mP [x0,x1] h=aU b! [.tmp 4] (xA (ss 1 x1 (ss 0 x0 T.nil)) h):=kR
theorem abz:aG b! aJ 190 mP:=prX aN [] [] (aV vG bF) Tryz.func190
def ae4:Rg:=λf h=>gtO (ge 0 f) λa=>aA (fO 40 a h) λb c=>a! (ss 3 (K false) (ss 2 b f)) c
def ae3:Rg:=λf h=>gtO (ge 2 f) λa=>aA (aC 0 a h) λb c=>aA (aF b c) λd i=>gtO (ge 1 f) λj=>aA (aF j i) λm n=>aA (aI .eql .none d m n) λo p=>a! (ss 3 o f) p
def abh:Rg:=(aB ae4 (aB ae3 c!))
def Ji:Fun:=bD b! (kp [0,1,2,3]) Tryz.f77.ntmps [.tmp 3] abh
theorem arD(x0 x1:V)(h:Hp):Ji [x0,x1] h=aU b! [.tmp 3] (abh (ss 1 x1 (ss 0 x0 T.nil)) h):=kR
theorem aBM:aG b! aJ 77 Ji:=prX aN [] [] bF Tryz.func77
def Ud:Rg:=λf h=>gtO (ge 0 f) λa=>aA (fO 40 a h) λb c=>a! (ss 3 (K false) (ss 2 b f)) c
def Ub:Rg:=λf h=>gtO (ge 2 f) λa=>aA (aC 0 a h) λb c=>aA (aF b c) λd i=>gtO (ge 1 f) λj=>aA (aF j i) λm n=>aA (aI .eql .none d m n) λo p=>a! (ss 3 o f) p
def KZ:Rg:=(aB Ud (aB Ub c!))
def vT:Fun:=bD b! (kp [0,1,2,3]) Tryz.f222.ntmps [.tmp 3] KZ
theorem ahy(x0 x1:V)(h:Hp):vT [x0,x1] h=aU b! [.tmp 3] (KZ (ss 1 x1 (ss 0 x0 T.nil)) h):=kR
theorem apE:aG b! aJ 222 vT:=prX aN [] [] bF Tryz.func222
def uz:FuncId->Option Fun:=rF [(77,Ji),(222,vT)]
def Ia:=rC 4 (Y U 0)
def H9:Rg:=λf h=>gtO (ge 0 f) λa=>aA (aZ 2 a h) λb c=>a! (ss 8 (Y U 0) (ss 7 b f)) c
def H8:=r2 9 8 7 λa b h=>aI .lss .none a b h
def H7:=rM 5 8
def H6:Rg:=λf h=>gtO (ge 1 f) λa=>gtO (ge 0 f) λb=>gtO (ge 5 f) λc=>aA (aX 8 b c h) λd i=>aA (bT 8 d i) λj m=>aA (dI uz a [j] m) λn o=>a! (ss 16 n f) o
def HY:=rM 4 5
def Hw:=r1 8 8 λa h=>aI .add .none a (Y U 1) h
def Hu:=rC 4 (Y U (-1))
def Jc:Rg:=(aB H8 (aB (aT (.tmp 9) a! (Out.ex 0)) (aB (bG 1 (aB H7 (aB H6 (aT (.tmp 16) (aB HY c!) a!)))) Hw)))
def uG:Rg:=(aB Ia (aB (aB H9 (bG 0 (dH Jc lf))) (aB Hu c!)))
def oL:Fun:=bD b! (kp [0,1,4,5,7,8,9,16]) Tryz.f76.ntmps [.tmp 4] uG
theorem Zy(x0 x1:V)(h:Hp):oL [x0,x1] h=aU b! [.tmp 4] (uG (ss 1 x1 (ss 0 x0 T.nil)) h):=kR
theorem NY:aG b! aJ 76 oL:=prX aN [] [] (aV aBM (aV apE bF)) Tryz.func76
def afQ:=rC 2 (K false)
def afP:Rg:=λf h=>gtO (ge 0 f) λa=>aA (wG [a] h) λb c=>ifB b (aA (aZ 1 a c) λd i=>aA (aI .leq .none d (Y U 64) i) λj m=>ifB j (aA (yh [a] m) λn o=>aA (aI .eql .none n a o) λp q=>a! (ss 2 p f) q) (a! (ss 2 (K false) f) m)) (a! (ss 2 (K false) f) c)
def abu:Rg:=(aB afQ (aB afP c!))
def Rf:Fun:=bD b! (kp [0,2]) Tryz.f80.ntmps [.tmp 2] abu
theorem arL(x0:V)(h:Hp):Rf [x0] h=aU b! [.tmp 2] (abu (ss 0 x0 T.nil) h):=kR
theorem aBT:aG b! aJ 80 Rf:=prX aN [] [] (aV aq1 (aV Zt bF)) Tryz.func80
def afS:=rC 2 (K false)
def afR:Rg:=λf h=>gtO (ge 0 f) λa=>aA (Rf [a] h) λb c=>aA (oUn .not b c) λd i=>a! (ss 2 d f) i
def abv:Rg:=(aB afS (aB afR c!))
def Rh:Fun:=bD b! (kp [0,2]) Tryz.f79.ntmps [.tmp 2] abv
theorem arM(x0:V)(h:Hp):Rh [x0] h=aU b! [.tmp 2] (abv (ss 0 x0 T.nil) h):=kR
theorem aBU:aG b! aJ 79 Rh:=prX aN [] [] (aV aBT bF) Tryz.func79
def Nl:=rC 4 (Y U 0)
def Nk:Rg:=λf h=>gtO (ge 0 f) λa=>aA (aZ 2 a h) λb c=>a! (ss 8 (Y U 0) (ss 7 b f)) c
def Nj:=r2 9 8 7 λa b h=>aI .lss .none a b h
def Nh:=rM 5 8
def Nc:Rg:=λf h=>gtO (ge 1 f) λa=>gtO (ge 0 f) λb=>gtO (ge 5 f) λc=>aA (aX 1 b c h) λd i=>aA (aF d i) λj m=>aA (aI .eql .none a j m) λn o=>a! (ss 16 n f) o
def MZ:=rM 4 5
def MX:=r1 8 8 λa h=>aI .add .none a (Y U 1) h
def MW:=rC 4 (Y U (-1))
def NZ:Rg:=(aB Nj (aB (aT (.tmp 9) a! (Out.ex 0)) (aB (bG 1 (aB Nh (aB Nc (aT (.tmp 16) (aB MZ c!) a!)))) MX)))
def xq:Rg:=(aB Nl (aB (aB Nk (bG 0 (dH NZ lf))) (aB MW c!)))
def xG:Fun:=bD b! (kp [0,1,4,5,7,8,9,16]) Tryz.f85.ntmps [.tmp 4] xq
theorem adT(x0 x1:V)(h:Hp):xG [x0,x1] h=aU b! [.tmp 4] (xq (ss 1 x1 (ss 0 x0 T.nil)) h):=kR
theorem akW:aG b! aJ 85 xG:=prX aN [] [] bF Tryz.func85
def FH:=rC 4 (K false)
def FD:Rg:=λf h=>gtO (ge 0 f) λa=>gtO (ge 1 f) λb=>aA (xG [a,b] h) λc d=>aA (aI .geq .none c (Y U 0) d) λi j=>a! (ss 4 i f) j
def yH:Rg:=(aB FH (aB FD c!))
def nP:Fun:=bD b! (kp [0,1,4]) Tryz.f36.ntmps [.tmp 4] yH
theorem XB(x0 x1:V)(h:Hp):nP [x0,x1] h=aU b! [.tmp 4] (yH (ss 1 x1 (ss 0 x0 T.nil)) h):=kR
theorem adQ:aG b! aJ 36 nP:=prX aN [] [] (aV akW bF) Tryz.func36
def pY:FuncId->Option Fun:=rF [(79,Rh)]
def CX:=rC 4 (Y U 0)
def CW:Rg:=λf h=>gtO (ge 0 f) λa=>aA (aZ 2 a h) λb c=>a! (ss 8 (Y U 0) (ss 7 b f)) c
def CV:=r2 9 8 7 λa b h=>aI .lss .none a b h
def CU:=rM 5 8
def CS:Rg:=λf h=>gtO (ge 1 f) λa=>gtO (ge 0 f) λb=>gtO (ge 5 f) λc=>aA (aX 1 b c h) λd i=>aA (aF d i) λj m=>aA (dI pY a [j] m) λn o=>a! (ss 16 n f) o
def CQ:=rM 4 5
def CP:=r1 8 8 λa h=>aI .add .none a (Y U 1) h
def CO:=rC 4 (Y U (-1))
def Du:Rg:=(aB CV (aB (aT (.tmp 9) a! (Out.ex 0)) (aB (bG 1 (aB CU (aB CS (aT (.tmp 16) (aB CQ c!) a!)))) CP)))
def qc:Rg:=(aB CX (aB (aB CW (bG 0 (dH Du lf))) (aB CO c!)))
def qf:Fun:=bD b! (kp [0,1,4,5,7,8,9,16]) Tryz.f163.ntmps [.tmp 4] qc
theorem UL(x0 x1:V)(h:Hp):qf [x0,x1] h=aU b! [.tmp 4] (qc (ss 1 x1 (ss 0 x0 T.nil)) h):=kR
theorem aby:aG b! aJ 163 qf:=prX aN [] [] (aV aBU bF) Tryz.func163
def y9:=rC 4 (K false)
def y8:Rg:=λf h=>gtO (ge 0 f) λa=>gtO (ge 1 f) λb=>aA (qf [a,b] h) λc d=>aA (aI .geq .none c (Y U 0) d) λi j=>a! (ss 4 i f) j
def rZ:Rg:=(aB y9 (aB y8 c!))
def nM:Fun:=bD b! (kp [0,1,4]) Tryz.f78.ntmps [.tmp 4] rZ
theorem Px(x0 x1:V)(h:Hp):nM [x0,x1] h=aU b! [.tmp 4] (rZ (ss 1 x1 (ss 0 x0 T.nil)) h):=kR
theorem UK:aG b! aJ 78 nM:=prX aN [] [] (aV aby bF) Tryz.func78
def adi:Rg:=λf h=>gtO (ge 0 f) λa=>aA (fO 149 a h) λb c=>a! (ss 2 (K false) (ss 1 b f)) c
def adh:Rg:=λf h=>gtO (ge 1 f) λa=>aA (aC 0 a h) λb c=>aA (aF b c) λd i=>aA (aI .neq .none d (Y U 1) i) λj m=>a! (ss 2 j f) m
def Xq:Rg:=(aB adi (aB adh c!))
def Dz:Fun:=bD b! (kp [0,1,2]) Tryz.f155.ntmps [.tmp 2] Xq
theorem apS(x0:V)(h:Hp):Dz [x0] h=aU b! [.tmp 2] (Xq (ss 0 x0 T.nil) h):=kR
theorem axl:aG b! aJ 155 Dz:=prX aN [] [] bF Tryz.func155
def uw:FuncId->Option Fun:=rF [(155,Dz)]
def G9:=rC 4 (Y U 0)
def G8:Rg:=λf h=>gtO (ge 0 f) λa=>aA (aZ 2 a h) λb c=>a! (ss 8 (Y U 0) (ss 7 b f)) c
def G6:=r2 9 8 7 λa b h=>aI .lss .none a b h
def G5:=rM 5 8
def GZ:Rg:=λf h=>gtO (ge 1 f) λa=>gtO (ge 0 f) λb=>gtO (ge 5 f) λc=>aA (aX 3 b c h) λd i=>aA (bT 3 d i) λj m=>aA (dI uw a [j] m) λn o=>a! (ss 16 n f) o
def GY:=rM 4 5
def GX:=r1 8 8 λa h=>aI .add .none a (Y U 1) h
def GV:=rC 4 (Y U (-1))
def I9:Rg:=(aB G6 (aB (aT (.tmp 9) a! (Out.ex 0)) (aB (bG 1 (aB G5 (aB GZ (aT (.tmp 16) (aB GY c!) a!)))) GX)))
def uF:Rg:=(aB G9 (aB (aB G8 (bG 0 (dH I9 lf))) (aB GV c!)))
def uK:Fun:=bD b! (kp [0,1,4,5,7,8,9,16]) Tryz.f213.ntmps [.tmp 4] uF
theorem Zx(x0 x1:V)(h:Hp):uK [x0,x1] h=aU b! [.tmp 4] (uF (ss 1 x1 (ss 0 x0 T.nil)) h):=kR
theorem agu:aG b! aJ 213 uK:=prX aN [] [] (aV axl bF) Tryz.func213
def Bo:=rC 4 (K false)
def Bl:Rg:=λf h=>gtO (ge 0 f) λa=>gtO (ge 1 f) λb=>aA (uK [a,b] h) λc d=>aA (aI .geq .none c (Y U 0) d) λi j=>a! (ss 4 i f) j
def vP:Rg:=(aB Bo (aB Bl c!))
def lI:Fun:=bD b! (kp [0,1,4]) Tryz.f130.ntmps [.tmp 4] vP
theorem UE(x0 x1:V)(h:Hp):lI [x0,x1] h=aU b! [.tmp 4] (vP (ss 1 x1 (ss 0 x0 T.nil)) h):=kR
theorem Zr:aG b! aJ 130 lI:=prX aN [] [] (aV agu bF) Tryz.func130
def Nz:Rg:=λf h=>gtO (ge 1 f) λa=>aA (fO 106 a h) λb c=>a! (ss 4 (Y U 0) (ss 3 b f)) c
def Ny:Rg:=λf h=>gtO (ge 0 f) λa=>aA (aZ 2 a h) λb c=>a! (ss 8 (Y U 0) (ss 7 b f)) c
def Nv:=r2 9 8 7 λa b h=>aI .lss .none a b h
def Nu:=rM 5 8
def Ns:Rg:=λf h=>gtO (ge 3 f) λa=>aA (bT 2 a (aH 0 h)) λb _=>gtO (ge 0 f) λc=>gtO (ge 5 f) λd=>aA (aX 2 c d (aH 0 h)) λi _=>aA (bT 2 i (aH 0 h)) λj _=>aA (agT .eql [((.int U),0),((.int U),1)] b j (aH 0 h)) λm _=>a! (ss 16 m f) (aH 0 h)
def Nr:=rM 4 5
def Nq:=r1 8 8 λa h=>aI .add .none a (Y U 1) h
def Np:=rC 4 (Y U (-1))
def N7:Rg:=(aB Nv (aB (aT (.tmp 9) a! (Out.ex 0)) (aB (bG 1 (aB Nu (aB Ns (aT (.tmp 16) (aB Nr c!) a!)))) Nq)))
def xu:Rg:=(aB Nz (aB (aB Ny (bG 0 (dH N7 lf))) (aB Np c!)))
def xH:Fun:=bD b! (kp [0,1,3,4,5,7,8,9,16]) Tryz.f324.ntmps [.tmp 4] xu
theorem adU(x0 x1:V)(h:Hp):xH [x0,x1] h=aU b! [.tmp 4] (xu (ss 1 x1 (ss 0 x0 T.nil)) h):=kR
theorem akX:aG b! aJ 324 xH:=prX aN [] [(4,[0,0,0,6,14,31],gm [3,16,32,48,67,80])] bF Tryz.func324
def FK:Rg:=λf h=>gtO (ge 1 f) λa=>aA (fO 106 a h) λb c=>a! (ss 4 (K false) (ss 3 b f)) c
def FI:Rg:=λf h=>gtO (ge 0 f) λa=>gtO (ge 3 f) λb=>aA (bT 2 b h) λc d=>aA (xH [a,c] d) λi j=>aA (aI .geq .none i (Y U 0) j) λm n=>a! (ss 4 m f) n
def yI:Rg:=(aB FK (aB FI c!))
def kV:Fun:=bD b! (kp [0,1,3,4]) Tryz.f223.ntmps [.tmp 4] yI
theorem XC(x0 x1:V)(h:Hp):kV [x0,x1] h=aU b! [.tmp 4] (yI (ss 1 x1 (ss 0 x0 T.nil)) h):=kR
theorem adR:aG b! aJ 223 kV:=prX aN [] [] (aV akX bF) Tryz.func223
def O4:Rg:=λf h=>gtO (ge 1 f) λa=>aA (fO 200 a h) λb c=>a! (ss 4 (Y U 0) (ss 3 b f)) c
def O3:Rg:=λf h=>gtO (ge 0 f) λa=>aA (aP a h) λb c=>aA (aC 4 b c) λd i=>aA (aF d i) λj m=>a! (ss 8 j f) m
def adx:Rg:=λf h=>gtO (ge 3 f) λa=>aA (aC 1 a h) λb c=>aA (aF b c) λd i=>a! (ss 4 d f) i
def adw:Rg:=λf h=>gtO (ge 3 f) λa=>aA (aC 0 a h) λb c=>aA (aF b c) λd i=>a! (ss 4 d f) i
def LX:Rg:=(aB O4 (aB (aB O3 (aT (.tmp 8) (aB adx c!) a!)) (aB adw c!)))
def DC:Fun:=bD b! (kp [0,1,3,4,8]) Tryz.f141.ntmps [.tmp 4] LX
theorem apT(x0 x1:V)(h:Hp):DC [x0,x1] h=aU b! [.tmp 4] (LX (ss 1 x1 (ss 0 x0 T.nil)) h):=kR
theorem ajI:aG b! aJ 141 DC:=prX aN [] [] bF Tryz.func141
def DZ:Rg:=λf h=>gtO (ge 0 f) λa=>aA (fO 200 a h) λb c=>a! (ss 6 (K false) (ss 5 b f)) c
def DY:Rg:=λf h=>gtO (ge 1 f) λa=>aA (aF a h) λb c=>ifB b (gtO (ge 5 f) λd=>aA (aC 2 d c) λi j=>aA (aC 6 i j) λm n=>aA (aF m n) λo p=>gtO (ge 2 f) λq=>aA (aF q p) λr s=>aA (aI .gtr .none o r s) λt u=>a! (ss 7 t f) u) (a! (ss 7 (K false) f) c)
def DX:=rM 16 7
def adg(fr:F)(h:Hp):Out:=
 gtO (ge 4 fr) λa=>aA (aF a (aH 1 h)) λb _=>
 gtO (ge 5 fr) λc=>aA (bT 10 c (aH 1 h)) λd _=>
 aA (DC [b,d] (aH 1 h)) λi j=>
 gtO (ge 3 fr) λm=>aA (aF m j) λn _=>chk (λh=>aF m h) n (
 zU (eu 3 [(Y U 0)] 1 [(0,1,i)]) λf e=>
 aA (bK 3 1 8 n (e (Hp.next h)) (Hp.put j (Hp.next h) (some f))) λo p=>
 gtO (ge 3 fr) λq=>aA (aQ 1 q o p) λ_ r=>
 a! fr r) 1 [(aH 1 h)]
def DW:=rM 6 7
def Dq:Rg:=(aB DZ (aB DY (aB (aB DX (aT (.tmp 16) adg a!)) (aB DW c!))))
def qj:Fun:=bD b! (kp [0,1,2,3,4,5,6,7,16]) Tryz.f156.ntmps [.tmp 6] Dq
theorem apR(x0 x1 a b c:V)(h:Hp):qj [x0,x1,a,b,c] h=aU b! [.tmp 6] (Dq (ss 4 c (ss 3 b (ss 2 a (ss 1 x1 (ss 0 x0 T.nil))))) h):=kR
theorem ajH:aG b! aJ 156 qj:=prX aN [] [(3,[0,0,0,6,14,31,63],gm [19,35,50,4,65,82,98])] (aV ajI bF) Tryz.func156
def aaH:Rg:=λf h=>gtO (ge 0 f) λa=>aA (fO 98 a h) λb c=>a! (ss 3 (K false) (ss 2 b f)) c
def aaG:Rg:=λf h=>gtO (ge 1 f) λa=>aA (aF a h) λb c=>gtO (ge 2 f) λd=>aA (aC 0 d c) λi j=>aA (aF i j) λm n=>aA (aI .geq .none b m n) λo p=>ifB o (aA (aF a p) λq r=>aA (aC 1 d r) λs t=>aA (aF s t) λu v=>aA (aI .leq .none q u v) λw x=>a! (ss 3 w f) x) (a! (ss 3 (K false) f) p)
def abl:Rg:=(aB aaH (aB aaG c!))
def UD:Fun:=bD b! (kp [0,1,2,3]) Tryz.f329.ntmps [.tmp 3] abl
theorem axz(x0 x1:V)(h:Hp):UD [x0,x1] h=aU b! [.tmp 3] (abl (ss 1 x1 (ss 0 x0 T.nil)) h):=kR
theorem aGO:aG b! aJ 329 UD:=prX aN [] [] bF Tryz.func329
def qU:FuncId->Option Fun:=rF [(329,UD)]
def FC:=rC 4 (Y U 0)
def FB:Rg:=λf h=>gtO (ge 0 f) λa=>aA (aZ 2 a h) λb c=>a! (ss 8 (Y U 0) (ss 7 b f)) c
def Fz:=r2 9 8 7 λa b h=>aI .lss .none a b h
def Fv:=rM 5 8
def Fq:Rg:=λf h=>gtO (ge 1 f) λa=>gtO (ge 0 f) λb=>gtO (ge 5 f) λc=>aA (aX 2 b c h) λd i=>aA (bT 2 d i) λj m=>aA (dI qU a [j] m) λn o=>a! (ss 16 n f) o
def Fp:=rM 4 5
def Fj:=r1 8 8 λa h=>aI .add .none a (Y U 1) h
def Fh:=rC 4 (Y U (-1))
def FW:Rg:=(aB Fz (aB (aT (.tmp 9) a! (Out.ex 0)) (aB (bG 1 (aB Fv (aB Fq (aT (.tmp 16) (aB Fp c!) a!)))) Fj)))
def qW:Rg:=(aB FC (aB (aB FB (bG 0 (dH FW lf))) (aB Fh c!)))
def qX:Fun:=bD b! (kp [0,1,4,5,7,8,9,16]) Tryz.f398.ntmps [.tmp 4] qW
theorem XA(x0 x1:V)(h:Hp):qX [x0,x1] h=aU b! [.tmp 4] (qW (ss 1 x1 (ss 0 x0 T.nil)) h):=kR
theorem adP:aG b! aJ 398 qX:=prX aN [] [] (aV aGO bF) Tryz.func398
def Ae:=rC 4 (K false)
def Ad:Rg:=λf h=>gtO (ge 0 f) λa=>gtO (ge 1 f) λb=>aA (qX [a,b] h) λc d=>aA (aI .geq .none c (Y U 0) d) λi j=>a! (ss 4 i f) j
def uV:Rg:=(aB Ae (aB Ad c!))
def ou:Fun:=bD b! (kp [0,1,4]) Tryz.f328.ntmps [.tmp 4] uV
theorem QX(x0 x1:V)(h:Hp):ou [x0,x1] h=aU b! [.tmp 4] (uV (ss 1 x1 (ss 0 x0 T.nil)) h):=kR
theorem Xw:aG b! aJ 328 ou:=prX aN [] [] (aV adP bF) Tryz.func328
def aqH:Rg:=λf h=>gtO (ge 1 f) λa=>aA (fO 3 a h) λb c=>a! (ss 4 (K false) (ss 3 b f)) c
def aqG:Rg:=λf h=>gtO (ge 0 f) λa=>gtO (ge 3 f) λb=>aA (fC (.func 329) [] [b] h) λc d=>aA (ou [a,c] d) λi j=>a! (ss 4 i f) j
def apy:Rg:=(aB aqH (aB aqG c!))
def ahl:Fun:=bD b! (kp [0,1,3,4]) Tryz.f226.ntmps [.tmp 4] apy
theorem aBZ(x0 x1:V)(h:Hp):ahl [x0,x1] h=aU b! [.tmp 4] (apy (ss 1 x1 (ss 0 x0 T.nil)) h):=kR
theorem aLb:aG b! aJ 226 ahl:=prX aN [] [] (aV Xw bF) Tryz.func226
def ai6:Rg:=λf h=>gtO (ge 0 f) λa=>aA (fO 200 a h) λb c=>a! (ss 4 (K false) (ss 3 b f)) c
def ai5:Rg:=λf h=>gtO (ge 2 f) λa=>aA (aF a (aH 0 h)) λb _=>gtO (ge 3 f) λc=>aA (bT 10 c (aH 0 h)) λd _=>aA (DC [b,d] (aH 0 h)) λi j=>gtO (ge 1 f) λm=>aA (aF m j) λn _=>chk (λh=>aF m h) n ( aA (ahl [n,i] j) λo p=>aA (oUn .not o p) λq _=>a! (ss 4 q f) p) 1 [(aH 0 h)]
def agh:Rg:=(aB ai6 (aB ai5 c!))
def AL:Fun:=bD b! (kp [0,1,2,3,4]) Tryz.f225.ntmps [.tmp 4] agh
theorem av7(x0 x1 a:V)(h:Hp):AL [x0,x1,a] h=aU b! [.tmp 4] (agh (ss 2 a (ss 1 x1 (ss 0 x0 T.nil))) h):=kR
theorem aq5:aG b! aJ 225 AL:=prX aN [] [(1,[0,0,0,6,15,31,63],gm [19,35,50,4,66,80,96])] (aV ajI (aV aLb bF)) Tryz.func225
def adz:Rg:=λf h=>gtO (ge 0 f) λa=>aA (fO 200 a h) λb c=>a! (ss 3 (K false) (ss 2 b f)) c
def ady:Rg:=λf h=>gtO (ge 2 f) λa=>aA (aC 0 a h) λb c=>aA (aF b c) λd i=>gtO (ge 1 f) λj=>aA (aC 0 j i) λm n=>aA (aF m n) λo p=>aA (aI .eql .none d o p) λq r=>a! (ss 3 q f) r
def Xr:Rg:=(aB adz (aB ady c!))
def DF:Fun:=bD b! (kp [0,1,2,3]) Tryz.f250.ntmps [.tmp 3] Xr
theorem apU(x0 x1:V)(h:Hp):DF [x0,x1] h=aU b! [.tmp 3] (Xr (ss 1 x1 (ss 0 x0 T.nil)) h):=kR
theorem axm:aG b! aJ 250 DF:=prX aN [] [] bF Tryz.func250
def iM:FuncId->Option Fun:=rF [(156,qj),(225,AL),(250,DF)]
def rW:=rC 4 (Y U 0)
def rV:Rg:=λf h=>gtO (ge 0 f) λa=>aA (aZ 2 a h) λb c=>a! (ss 8 (Y U 0) (ss 7 b f)) c
def rU:=r2 9 8 7 λa b h=>aI .lss .none a b h
def rQ:=rM 5 8
def rP:Rg:=λf h=>gtO (ge 1 f) λa=>gtO (ge 0 f) λb=>gtO (ge 5 f) λc=>aA (aX 10 b c h) λd i=>aA (bT 10 d i) λj m=>aA (dI iM a [j] m) λn o=>a! (ss 16 n f) o
def rO:=rM 4 5
def rJ:=r1 8 8 λa h=>aI .add .none a (Y U 1) h
def rH:=rC 4 (Y U (-1))
def su:Rg:=(aB rU (aB (aT (.tmp 9) a! (Out.ex 0)) (aB (bG 1 (aB rQ (aB rP (aT (.tmp 16) (aB rO c!) a!)))) rJ)))
def jT:Rg:=(aB rW (aB (aB rV (bG 0 (dH su lf))) (aB rH c!)))
def jo:Fun:=bD b! (kp [0,1,4,5,7,8,9,16]) Tryz.f234.ntmps [.tmp 4] jT
theorem AB(x0 x1:V)(h:Hp):jo [x0,x1] h=aU b! [.tmp 4] (jT (ss 1 x1 (ss 0 x0 T.nil)) h):=kR
theorem FU:aG b! aJ 234 jo:=prX aN [] [] (aV ajH (aV aq5 (aV axm bF))) Tryz.func234
def GK:Rg:=λf h=>gtO (ge 0 f) λa=>aA (fO 250 a h) λb c=>a! (ss 3 (K false) (ss 2 b f)) c
def GI(fr:F)(h:Hp):Out:=
 gtO (ge 2 fr) λa=>aA (aC 0 a h) λb c=>
 aA (aF b c) λd i=>
 gtO (ge 1 fr) λj=>aA (aC 0 j i) λm n=>
 aA (aF m n) λo p=>
 aA (aI .eql .none d o p) λq r=>
 ifB q (aA (aC 1 a r) λs t=>
 aA (aC 0 s t) λu v=>
 aA (aF u v) λw x=>
 aA (aC 1 j x) λy z=>
 aA (aF y z) λe f=>
 aA (aI .eql .none w e f) λg k=>
 a! (ss 3 g fr) k) (a! (ss 3 (K false) fr) r)
def Ea:Rg:=(aB GK (aB GI c!))
def xZ:Fun:=bD b! (kp [0,1,2,3]) Tryz.f178.ntmps [.tmp 3] Ea
theorem ak2(x0 x1:V)(h:Hp):xZ [x0,x1] h=aU b! [.tmp 3] (Ea (ss 1 x1 (ss 0 x0 T.nil)) h):=kR
theorem arx:aG b! aJ 178 xZ:=prX aN [] [] bF Tryz.func178
def yG:FuncId->Option Fun:=rF [(178,xZ)]
def Fe:=rC 4 (Y U 0)
def Fb:Rg:=λf h=>gtO (ge 0 f) λa=>aA (aZ 2 a h) λb c=>a! (ss 8 (Y U 0) (ss 7 b f)) c
def E8:=r2 9 8 7 λa b h=>aI .lss .none a b h
def EZ:=rM 5 8
def EY:Rg:=λf h=>gtO (ge 1 f) λa=>gtO (ge 0 f) λb=>gtO (ge 5 f) λc=>aA (aX 9 b c h) λd i=>aA (bT 9 d i) λj m=>aA (dI yG a [j] m) λn o=>a! (ss 16 n f) o
def EX:=rM 4 5
def EW:=r1 8 8 λa h=>aI .add .none a (Y U 1) h
def EU:=rC 4 (Y U (-1))
def FV:Rg:=(aB E8 (aB (aT (.tmp 9) a! (Out.ex 0)) (aB (bG 1 (aB EZ (aB EY (aT (.tmp 16) (aB EX c!) a!)))) EW)))
def qV:Rg:=(aB Fe (aB (aB Fb (bG 0 (dH FV lf))) (aB EU c!)))
def nO:Fun:=bD b! (kp [0,1,4,5,7,8,9,16]) Tryz.f177.ntmps [.tmp 4] qV
theorem Xz(x0 x1:V)(h:Hp):nO [x0,x1] h=aU b! [.tmp 4] (qV (ss 1 x1 (ss 0 x0 T.nil)) h):=kR
theorem adO:aG b! aJ 177 nO:=prX aN [] [] (aV arx bF) Tryz.func177
def Io:=rC 6 .aO
def Il:Rg:=λf h=>gtO (ge 0 f) λa=>gtO (ge 1 f) λb=>gtO (ge 2 f) λc=>aA (aZ 2 a h) λd i=>aA (eU 3 a (some b) (some c) (some d) i) λj m=>a! f m
def Ij:=r2 16 1 2 λa b h=>aI .eql .none a b h
def Ii:=r1 7 0 λa h=>aZ 2 a h
def Ih:Rg:=λf h=>gtO (ge 0 f) λa=>gtO (ge 1 f) λb=>aA (eU 3 a none (some b) none (aH 0 h)) λc _=>gtO (ge 0 f) λd=>gtO (ge 2 f) λi=>aA (eU 3 d (some i) none none (aH 0 h)) λj _=>aA (bK 248 3 24 c j (aH 0 h)) λm n=>a! (ss 0 m f) n
def Ig:Rg:=λf h=>gtO (ge 0 f) λa=>aA (aZ 2 a h) λb c=>gtO (ge 7 f) λd=>aA (JY 3 a b d c) λi j=>aA (SC [(Y U 0),(Y U 0),.bY] i j) λ_ m=>a! f m
def Ie:=rM 6 0
def Au:Rg:=(aB Io (aB Il (aB (aB Ij (aT (.tmp 16) zz a!)) (aB Ii (aB Ih (aB Ig (aB Ie c!)))))))
def lH:Fun:=bD b! (kp [0,1,2,6,7,16]) Tryz.f179.ntmps [.tmp 6] Au
theorem Zz(x0 x1 a:V)(h:Hp):lH [x0,x1,a] h=aU b! [.tmp 6] (Au (ss 2 a (ss 1 x1 (ss 0 x0 T.nil))) h):=kR
theorem agv:aG b! aJ 179 lH:=prX aN [3] [(5,[0,0,3,0,0,24,63,127],gm [0,16,32,48,64,80,98,112])] bF Tryz.func179
def kY:FuncId->Option Fun:=rF [(234,jo),(156,qj),(225,AL)]
def kD:=rC 4 .aO
def kC:=r2 5 0 1 λa b h=>jo [a,b] h
def kz:=r1 12 5 λa h=>aI .eql .none a (Y U (-1)) h
def qI:=rM 4 0
def qH:=r1 6 5 λa h=>aI .add .none a (Y U 1) h
def iK:Rg:=λf h=>gtO (ge 6 f) λa=>gtO (ge 0 f) λb=>aA (aZ 2 b h) λc d=>aA (aI .lss .none a c d) λi j=>a! (ss 19 i f) j
def jZ:Rg:=λf h=>gtO (ge 0 f) λa=>gtO (ge 6 f) λb=>aA (aX 10 a b h) λc d=>aA (bT 10 c d) λi j=>aA (fE 200 [(Y U 0),(Y U 0),(Y U 0),(Y U 0),(H []),(Y U 0),.aO,.aO,(Y U 0),(Y U 0)] j) λm n=>aA (aQ 10 m i n) λ_ o=>a! (ss 7 m f) o
def jY:Rg:=λf h=>gtO (ge 1 f) λa=>gtO (ge 7 f) λb=>aA (bT 10 b h) λc d=>aA (dI kY a [c] d) λi j=>aA (oUn .not i j) λm n=>a! (ss 29 m f) n
def qG:Rg:=λf h=>gtO (ge 0 f) λa=>gtO (ge 5 f) λb=>gtO (ge 7 f) λc=>aA (bT 10 c h) λd i=>aA (aX 10 a b i) λj m=>aA (aQ 10 j d m) λ_ n=>a! f n
def pX:=r1 5 5 λa h=>aI .add .none a (Y U 1) h
def ku:=r1 6 6 λa h=>aI .add .none a (Y U 1) h
def pW:Rg:=λf h=>gtO (ge 0 f) λa=>gtO (ge 5 f) λb=>aA (eU 10 a (some b) none none h) λc d=>aA (SC [(Y U 0),(Y U 0),(Y U 0),(Y U 0),(H []),(Y U 0),.aO,.aO,(Y U 0),(Y U 0)] c d) λ_ i=>a! f i
def pV:Rg:=λf h=>gtO (ge 0 f) λa=>gtO (ge 5 f) λb=>aA (eU 10 a none (some b) none h) λc d=>a! (ss 4 c f) d
def iL:Rg:=(aB (aB iK (aT (.tmp 19) a! (Out.ex 0))) (aB (bG 1 (aB jZ (aB jY (aT (.tmp 29) (aB qG pX) a!)))) ku))
def iF:Rg:=(aB kD (aB kC (aB (aB kz (aT (.tmp 12) (aB qI c!) a!)) (aB (aB qH (bG 0 (dH iL lf))) (aB pW (aB pV c!))))))
def jc:Fun:=bD b! (kp [0,1,4,5,6,7,12,19,29]) Tryz.f144.ntmps [.tmp 4] iF
theorem lS(x0 x1:V)(h:Hp):jc [x0,x1] h=aU b! [.tmp 4] (iF (ss 1 x1 (ss 0 x0 T.nil)) h):=kR
theorem Dt:aG b! aJ 144 jc:=prX aN [] [] (aV FU (aV ajH (aV aq5 bF))) Tryz.func144
def Ac:=rC 4 (K false)
def Aa:Rg:=λf h=>gtO (ge 0 f) λa=>aA (aZ 2 a h) λb c=>gtO (ge 1 f) λd=>aA (aZ 2 d c) λi j=>aA (aI .neq .none b i j) λm n=>a! (ss 10 m f) n
def NM:=rC 4 (K false)
def NK:Rg:=λf h=>gtO (ge 0 f) λa=>aA (aZ 2 a h) λb c=>a! (ss 13 (Y U 0) (ss 12 b f)) c
def NJ:=r2 14 13 12 λa b h=>aI .lss .none a b h
def NI:=rM 5 13
def NH:Rg:=λf h=>gtO (ge 0 f) λa=>gtO (ge 5 f) λb=>aA (aX 1 a b (aH 0 h)) λc _=>aA (aF c (aH 0 h)) λd _=>gtO (ge 1 f) λi=>gtO (ge 5 f) λj=>aA (aX 1 i j (aH 0 h)) λm _=>aA (aF m (aH 0 h)) λn _=>aA (aI .neq .none d n (aH 0 h)) λo _=>a! (ss 24 o f) (aH 0 h)
def NG:=rC 4 (K false)
def NE:=r1 13 13 λa h=>aI .add .none a (Y U 1) h
def ND:=rC 4 (K true)
def N8:Rg:=(aB NJ (aB (aT (.tmp 14) a! (Out.ex 0)) (aB (bG 1 (aB NI (aB NH (aT (.tmp 24) (aB NG c!) a!)))) NE)))
def qJ:Rg:=(aB Ac (aB (aB Aa (aT (.tmp 10) (aB NM c!) a!)) (aB (aB NK (bG 0 (dH N8 lf))) (aB ND c!))))
def xI:Fun:=bD b! (kp [0,1,4,5,10,12,13,14,24]) Tryz.f33.ntmps [.tmp 4] qJ
theorem adV(x0 x1:V)(h:Hp):xI [x0,x1] h=aU b! [.tmp 4] (qJ (ss 1 x1 (ss 0 x0 T.nil)) h):=kR
theorem akY:aG b! aJ 33 xI:=prX aN [] [(6,[0,0,3,7,0,0,48,112,255],gm [0,16,32,51,64,80,96,115,128])] bF Tryz.func33
def afr:=rC 2 (Y U 0)
def afq:=r1 4 0 λa h=>aI .geq .none a (Y .u64 4294967296) h
def afp:=r1 8 0 λa h=>aI .geq .none a (Y .u64 65536) h
def afo:=r1 14 0 λa h=>aI .geq .none a (Y .u64 256) h
def ac4:Rg:=λf h=>gtO (ge 2 f) λa=>gtO (ge 0 f) λb=>aA (jV .u8 b h) λc d=>aA (kG (H [0,1,2,2,3,3,3,3,4,4,4,4,4,4,4,4,5,5,5,5,5,5,5,5,5,5,5,5,5,5,5,5,6,6,6,6,6,6,6,6,6,6,6,6,6,6,6,6,6,6,6,6,6,6,6,6,6,6,6,6,6,6,6,6,7,7,7,7,7,7,7,7,7,7,7,7,7,7,7,7,7,7,7,7,7,7,7,7,7,7,7,7,7,7,7,7,7,7,7,7,7,7,7,7,7,7,7,7,7,7,7,7,7,7,7,7,7,7,7,7,7,7,7,7,7,7,7,7,8,8,8,8,8,8,8,8,8,8,8,8,8,8,8,8,8,8,8,8,8,8,8,8,8,8,8,8,8,8,8,8,8,8,8,8,8,8,8,8,8,8,8,8,8,8,8,8,8,8,8,8,8,8,8,8,8,8,8,8,8,8,8,8,8,8,8,8,8,8,8,8,8,8,8,8,8,8,8,8,8,8,8,8,8,8,8,8,8,8,8,8,8,8,8,8,8,8,8,8,8,8,8,8,8,8,8,8,8,8,8,8,8,8,8,8,8,8,8,8,8,8,8,8,8,8,8,8]) c d) λi j=>aA (jV U i j) λm n=>aA (aI .add .none a m n) λo p=>a! (ss 2 o f) p
def QM:Rg:=(aB afr (aB (aB afq (aT (.tmp 4) zz a!)) (aB (aB afp (aT (.tmp 8) zz a!)) (aB (aB afo (aT (.tmp 14) zz a!)) (aB ac4 c!)))))
def QY:Fun:=bD b! (kp [0,2,4,8,14]) Tryz.f269.ntmps [.tmp 2] QM
theorem arG(x0:V)(h:Hp):QY [x0] h=aU b! [.tmp 2] (QM (ss 0 x0 T.nil) h):=kR
theorem aBN:aG b! aJ 269 QY:=prX aN [2,3,5,6,8,9] [] bF Tryz.func269
def ank:=rC 2 (Y U 0)
def anj:=r1 2 0 λa h=>QY [a] h
def akS:Rg:=(aB ank (aB (aT (.const (.bool false)) zz a!) (aB anj c!)))
def Le:Fun:=bD b! (kp [0,2]) Tryz.f165.ntmps [.tmp 2] akS
theorem axB(x0:V)(h:Hp):Le [x0] h=aU b! [.tmp 2] (akS (ss 0 x0 T.nil) h):=kR
theorem ak0:aG b! aJ 165 Le:=prX aN [1] [] (aV aBN bF) Tryz.func165
def IL:=rC 2 (K false)
def IK:=r1 2 0 λa h=>aI .neq .none a a h
def Eb:Rg:=(aB IL (aB IK c!))
def nG:Fun:=bD b! (kp [0,2]) Tryz.f364.ntmps [.tmp 2] Eb
theorem UH(x0:V)(h:Hp):nG [x0] h=aU b! [.tmp 2] (Eb (ss 0 x0 T.nil) h):=kR
theorem adF:aG b! aJ 364 nG:=prX aN [] [] bF Tryz.func364
def Zl:=rC 4 (K false)
def Zk:Rg:=λf h=>gtO (ge 0 f) λa=>aA (nG [a] h) λb c=>ifB b (gtO (ge 1 f) λd=>aA (nG [d] c) λi j=>aA (oUn .not i j) λm n=>ifB m (a! (ss 4 (K true) f) n) (aA (aI .lss .none a d n) λo p=>a! (ss 4 o f) p)) (gtO (ge 1 f) λd=>aA (aI .lss .none a d c) λo p=>a! (ss 4 o f) p)
def Uu:Rg:=(aB Zl (aB Zk c!))
def Jk:Fun:=bD b! (kp [0,1,4]) Tryz.f276.ntmps [.tmp 4] Uu
theorem an8(x0 x1:V)(h:Hp):Jk [x0,x1] h=aU b! [.tmp 4] (Uu (ss 1 x1 (ss 0 x0 T.nil)) h):=kR
theorem avK:aG b! aJ 276 Jk:=prX aN [] [] (aV adF bF) Tryz.func276
def jO:=r1 6 1 λa h=>aI .add .none a (Y U 1) h
def iY:=r2 12 6 2 λa b h=>aI .lss .none a b h
def tJ:=rM 7 6
def jM:Rg:=λf h=>gtO (ge 7 f) λa=>gtO (ge 1 f) λb=>aA (aI .gtr .none a b (aH 0 h)) λc _=>ifB c (gtO (ge 0 f) λd=>gtO (ge 7 f) λi=>aA (aX 1 d i (aH 0 h)) λj _=>aA (aF j (aH 0 h)) λm _=>gtO (ge 0 f) λn=>gtO (ge 7 f) λo=>aA (aI .sub .none o (Y U 1) (aH 0 h)) λp _=>aA (aX 1 n p (aH 0 h)) λq _=>aA (aF q (aH 0 h)) λr _=>aA (Jk [m,r] (aH 0 h)) λs t=>a! (ss 30 s f) t) (a! (ss 30 (K false) f) (aH 0 h))
def tC:Rg:=λf h=>gtO (ge 0 f) λa=>gtO (ge 7 f) λb=>gtO (ge 0 f) λc=>gtO (ge 7 f) λd=>aA (aI .sub .none d (Y U 1) (aH 0 h)) λi _=>aA (aX 1 c i (aH 0 h)) λj _=>aA (aF j (aH 0 h)) λm _=>gtO (ge 0 f) λn=>gtO (ge 7 f) λo=>aA (aX 1 n o (aH 0 h)) λp _=>aA (aF p (aH 0 h)) λq _=>aA (aX 1 a b (aH 0 h)) λr _=>aA (aQ 1 r m (aH 0 h)) λ_ s=>gtO (ge 0 f) λt=>gtO (ge 7 f) λu=>aA (aI .sub .none u (Y U 1) s) λv _=>aA (aX 1 t v s) λw _=>aA (aQ 1 w q s) λ_ x=>a! f x
def tH:=r1 7 7 λa h=>aI .sub .none a (Y U 1) h
def mD:=r1 6 6 λa h=>aI .add .none a (Y U 1) h
def jQ:Rg:=(aB (aB jM (aT (.tmp 30) a! (Out.ex 2))) (aB (bG 3 tC) tH))
def iZ:Rg:=(aB (aB iY (aT (.tmp 12) a! (Out.ex 0))) (aB (bG 1 (aB tJ (bG 2 (dH jQ lf)))) mD))
def gG:Rg:=(aB jO (bG 0 (dH iZ lf)))
def iI:Fun:=bD b! (kp [0,1,2,6,7,12,30]) Tryz.f270.ntmps [] gG
theorem rE(x0 x1 a:V)(h:Hp):iI [x0,x1,a] h=aU b! [] (gG (ss 2 a (ss 1 x1 (ss 0 x0 T.nil))) h):=kR
theorem La:aG b! aJ 270 iI:=prX aN [] [(4,[0,0,3,7,15,15,63,127,15,15,527,1807,3855,8191,16383],gm [0,16,32,48,64,80,96,115,128,144,160,176,195,210,224]),(6,[0,0,0,0,8,0,0,64,224,480,0,0,3072,7168,16355,32739,65535,131071],gm [0,16,80,96,112,128,147,160,176,192,211,224,242,32,48,64,256,274])] (aV avK bF) Tryz.func270
def NT:=rC 2 (K false)
def NS:=r1 2 0 λa h=>aI .neq .none a a h
def EF:Rg:=(aB NT (aB NS c!))
def qP:Fun:=bD b! (kp [0,2]) Tryz.f360.ntmps [.tmp 2] EF
theorem adY(x0:V)(h:Hp):qP [x0] h=aU b! [.tmp 2] (EF (ss 0 x0 T.nil) h):=kR
theorem ak1:aG b! aJ 360 qP:=prX aN [] [] bF Tryz.func360
def PS:=rC 4 (K false)
def PO:Rg:=λf h=>gtO (ge 0 f) λa=>aA (qP [a] h) λb c=>ifB b (gtO (ge 1 f) λd=>aA (qP [d] c) λi j=>aA (oUn .not i j) λm n=>ifB m (a! (ss 4 (K true) f) n) (aA (aI .lss .none a d n) λo p=>a! (ss 4 o f) p)) (gtO (ge 1 f) λd=>aA (aI .lss .none a d c) λo p=>a! (ss 4 o f) p)
def IV:Rg:=(aB PS (aB PO c!))
def zA:Fun:=bD b! (kp [0,1,4]) Tryz.f265.ntmps [.tmp 4] IV
theorem agB(x0 x1:V)(h:Hp):zA [x0,x1] h=aU b! [.tmp 4] (IV (ss 1 x1 (ss 0 x0 T.nil)) h):=kR
theorem anS:aG b! aJ 265 zA:=prX aN [] [] (aV ak1 bF) Tryz.func265
def jw:=r1 6 1 λa h=>aI .add .none a (Y U 1) h
def iE:=r2 12 6 2 λa b h=>aI .lss .none a b h
def qi:=rM 7 6
def jv:Rg:=λf h=>gtO (ge 7 f) λa=>gtO (ge 1 f) λb=>aA (aI .gtr .none a b (aH 0 h)) λc _=>ifB c (gtO (ge 0 f) λd=>gtO (ge 7 f) λi=>aA (aX 1 d i (aH 0 h)) λj _=>aA (aF j (aH 0 h)) λm _=>gtO (ge 0 f) λn=>gtO (ge 7 f) λo=>aA (aI .sub .none o (Y U 1) (aH 0 h)) λp _=>aA (aX 1 n p (aH 0 h)) λq _=>aA (aF q (aH 0 h)) λr _=>aA (zA [m,r] (aH 0 h)) λs t=>a! (ss 30 s f) t) (a! (ss 30 (K false) f) (aH 0 h))
def qg:Rg:=λf h=>gtO (ge 0 f) λa=>gtO (ge 7 f) λb=>gtO (ge 0 f) λc=>gtO (ge 7 f) λd=>aA (aI .sub .none d (Y U 1) (aH 0 h)) λi _=>aA (aX 1 c i (aH 0 h)) λj _=>aA (aF j (aH 0 h)) λm _=>gtO (ge 0 f) λn=>gtO (ge 7 f) λo=>aA (aX 1 n o (aH 0 h)) λp _=>aA (aF p (aH 0 h)) λq _=>aA (aX 1 a b (aH 0 h)) λr _=>aA (aQ 1 r m (aH 0 h)) λ_ s=>gtO (ge 0 f) λt=>gtO (ge 7 f) λu=>aA (aI .sub .none u (Y U 1) s) λv _=>aA (aX 1 t v s) λw _=>aA (aQ 1 w q s) λ_ x=>a! f x
def qh:=r1 7 7 λa h=>aI .sub .none a (Y U 1) h
def kX:=r1 6 6 λa h=>aI .add .none a (Y U 1) h
def jy:Rg:=(aB (aB jv (aT (.tmp 30) a! (Out.ex 2))) (aB (bG 3 qg) qh))
def iG:Rg:=(aB (aB iE (aT (.tmp 12) a! (Out.ex 0))) (aB (bG 1 (aB qi (bG 2 (dH jy lf)))) kX))
def fK:Rg:=(aB jw (bG 0 (dH iG lf)))
def gI:Fun:=bD b! (kp [0,1,2,6,7,12,30]) Tryz.f259.ntmps [] fK
theorem pU(x0 x1 a:V)(h:Hp):gI [x0,x1,a] h=aU b! [] (fK (ss 2 a (ss 1 x1 (ss 0 x0 T.nil))) h):=kR
theorem FZ:aG b! aJ 259 gI:=prX aN [] [(4,[0,0,3,7,15,15,63,127,15,15,527,1807,3855,8191,16383],gm [0,16,32,48,64,80,96,115,128,144,160,176,195,210,224]),(6,[0,0,0,0,8,0,0,64,224,480,0,0,3072,7168,16355,32739,65535,131071],gm [0,16,80,96,112,128,147,160,176,192,211,224,242,32,48,64,256,274])] (aV anS bF) Tryz.func259
def zZ:=rC 8 (K true)
def zY:=rC 9 (K true)
def zX:=r2 10 2 1 λa b h=>aI .sub .none a b h
def zW:=r1 23 10 λa h=>aI .leq .none a (Y U 12) h
def zV:Rg:=λf h=>gtO (ge 0 f) λa=>gtO (ge 1 f) λb=>gtO (ge 2 f) λc=>aA (iI [a,b,c] h) λd i=>a! f i
def Az:Rg:=(bG 1 (aB zX (aB (aB zW (aT (.tmp 23) (aB zV c!) a!)) zz)))
def oh:Rg:=(aB zZ (aB zY (bG 0 (dH Az lf))))
def oq:Fun:=bD b! (kp [0,1,2,3,8,9,10,11,12,13,14,15,16,17,18,23,29,35,50,68,72,87,113]) Tryz.f167.ntmps [] oh
theorem QW(x0 x1 a b:V)(h:Hp):oq [x0,x1,a,b] h=aU b! [] (oh (ss 3 b (ss 2 a (ss 1 x1 (ss 0 x0 T.nil)))) h):=kR
theorem Xv:aG b! aJ 167 oq:=prX aN [5,6,7,8,9,10,11,12,13,14,15,16,17,18,19,20,21,22,23,24,25,26,27,28,29,30] [] (aV La bF) Tryz.func167
def vZ:=rC 8 (K true)
def vY:=rC 9 (K true)
def vX:=r2 10 2 1 λa b h=>aI .sub .none a b h
def vW:=r1 23 10 λa h=>aI .leq .none a (Y U 12) h
def vV:Rg:=λf h=>gtO (ge 0 f) λa=>gtO (ge 1 f) λb=>gtO (ge 2 f) λc=>aA (gI [a,b,c] h) λd i=>a! f i
def wF:Rg:=(bG 1 (aB vX (aB (aB vW (aT (.tmp 23) (aB vV c!) a!)) zz)))
def lM:Rg:=(aB vZ (aB vY (bG 0 (dH wF lf))))
def lQ:Fun:=bD b! (kp [0,1,2,3,8,9,10,11,12,13,14,15,16,17,18,23,29,35,50,68,72,87,113]) Tryz.f164.ntmps [] lM
theorem Ld(x0 x1 a b:V)(h:Hp):lQ [x0,x1,a,b] h=aU b! [] (lM (ss 3 b (ss 2 a (ss 1 x1 (ss 0 x0 T.nil)))) h):=kR
theorem QT:aG b! aJ 164 lQ:=prX aN [5,6,7,8,9,10,11,12,13,14,15,16,17,18,19,20,21,22,23,24,25,26,27,28,29,30] [] (aV FZ bF) Tryz.func164
def Zh:=r1 2 0 λa h=>aZ 2 a h
def Zg:Rg:=λf h=>gtO (ge 0 f) λa=>gtO (ge 2 f) λb=>aA (jV .u64 b h) λc d=>aA (Le [c] d) λi j=>aA (oq [a,(Y U 0),b,i] j) λm n=>a! f n
def Ut:Rg:=(aB Zh Zg)
def oK:Fun:=bD b! (kp [0,2]) Tryz.f87.ntmps [] Ut
theorem an6(x0:V)(h:Hp):oK [x0] h=aU b! [] (Ut (ss 0 x0 T.nil) h):=kR
theorem agr:aG b! aJ 87 oK:=prX aN [] [] (aV ak0 (aV Xv bF)) Tryz.func87
def Pz:=r1 2 0 λa h=>aZ 2 a h
def Py:Rg:=λf h=>gtO (ge 0 f) λa=>gtO (ge 2 f) λb=>aA (jV .u64 b h) λc d=>aA (Le [c] d) λi j=>aA (lQ [a,(Y U 0),b,i] j) λm n=>a! f n
def IU:Rg:=(aB Pz Py)
def mM:Fun:=bD b! (kp [0,2]) Tryz.f82.ntmps [] IU
theorem agz(x0:V)(h:Hp):mM [x0] h=aU b! [] (IU (ss 0 x0 T.nil) h):=kR
theorem anP:aG b! aJ 82 mM:=prX aN [] [] (aV ak0 (aV QT bF)) Tryz.func82
def PZ:=rC 4 (Y U 0)
def PY:=r1 5 0 λa h=>nG [a] h
def PX:=r1 6 1 λa h=>nG [a] h
def PW:=rM 11 5
def PV:=rM 13 6
def PU:=r2 16 0 1 λa b h=>aI .lss .none a b h
def NV:=r2 19 0 1 λa b h=>aI .gtr .none a b h
def NU:=rC 4 (Y U 1)
def IW:Rg:=(aB PZ (aB PY (aB PX (aB (aB PW (aT (.tmp 11) zz a!)) (aB (aB PV (aT (.tmp 13) zz a!)) (aB (aB PU (aT (.tmp 16) zz a!)) (aB (aB NV (aT (.tmp 19) (aB NU c!) a!)) zz)))))))
def zB:Fun:=bD b! (kp [0,1,4,5,6,11,12,13,16,19]) Tryz.f285.ntmps [.tmp 4] IW
theorem agC(x0 x1:V)(h:Hp):zB [x0,x1] h=aU b! [.tmp 4] (IW (ss 1 x1 (ss 0 x0 T.nil)) h):=kR
theorem anT:aG b! aJ 285 zB:=prX aN [4,5,6,8,10,13] [] (aV adF bF) Tryz.func285
def YB:Rg:=λf h=>gtO (ge 0 f) λa=>aA (fO 250 a h) λb c=>gtO (ge 1 (ss 2 b f)) λd=>aA (fO 250 d c) λi j=>a! (ss 4 (Y U 0) (ss 3 i (ss 2 b f))) j
def YA:Rg:=λf h=>gtO (ge 2 f) λa=>aA (aC 0 a h) λb c=>aA (aF b c) λd i=>gtO (ge 3 f) λj=>aA (aC 0 j i) λm n=>aA (aF m n) λo p=>aA (zB [d,o] p) λq r=>a! (ss 4 q f) r
def Un:Rg:=(aB YB (aB YA c!))
def qN:Fun:=bD b! (kp [0,1,2,3,4]) Tryz.f284.ntmps [.tmp 4] Un
theorem an1(x0 x1:V)(h:Hp):qN [x0,x1] h=aU b! [.tmp 4] (Un (ss 1 x1 (ss 0 x0 T.nil)) h):=kR
theorem Uw:aG b! aJ 284 qN:=prX aN [] [] (aV anT bF) Tryz.func284
def iT:FuncId->Option Fun:=rF [(284,qN)]
def yT:Rg:=λf h=>a! (ss 11 (Y U 0) (ss 10 (Y U 0) f)) h
def yR:Rg:=λf h=>gtO (ge 4 f) λa=>gtO (ge 0 f) λb=>gtO (ge 2 f) λc=>aA (aX 9 b c (aH 0 h)) λd _=>aA (bT 9 d (aH 0 h)) λi _=>gtO (ge 0 f) λj=>gtO (ge 1 f) λm=>aA (aX 9 j m (aH 0 h)) λn _=>aA (bT 9 n (aH 0 h)) λo _=>aA (dI iT a [i,o] (aH 0 h)) λp q=>aA (aI .lss .none p (Y U 0) q) λr _=>a! (ss 22 r f) q
def yQ:Rg:=λf h=>gtO (ge 1 f) λa=>gtO (ge 2 f) λb=>a! (ss 11 b (ss 10 a f)) h
def rX:Rg:=(aB yT (aB (aB yR (aT (.tmp 22) zz a!)) (aB yQ c!)))
def jB:Fun:=bD b! (kp [0,1,2,3,4,10,11,22]) Tryz.f527.ntmps [.tmp 10,.tmp 11] rX
theorem Pq(x0 x1 a b c:V)(h:Hp):jB [x0,x1,a,b,c] h=aU b! [.tmp 10,.tmp 11] (rX (ss 4 c (ss 3 b (ss 2 a (ss 1 x1 (ss 0 x0 T.nil))))) h):=kR
theorem UI:aG b! aJ 527 jB:=prX aN [2,3] [(1,[0,0,0,6,14,0,0,96,224,511,1023],gm [0,16,32,48,67,80,96,112,131,146,160])] (aV Uw bF) Tryz.func527
def yZ:=rC 12 (Y U 0)
def yY:Rg:=λf h=>gtO (ge 0 f) λa=>gtO (ge 1 f) λb=>gtO (ge 2 f) λc=>gtO (ge 4 f) λd=>gtO (ge 5 f) λi=>aA (jB [a,b,c,d,i] h) λj m=>aA (bQ 0 j m) λn o=>aA (bQ 1 j o) λp q=>a! (ss 2 p (ss 1 n f)) q
def yX:Rg:=λf h=>gtO (ge 0 f) λa=>gtO (ge 2 f) λb=>gtO (ge 3 f) λc=>gtO (ge 4 f) λd=>gtO (ge 5 f) λi=>aA (jB [a,b,c,d,i] h) λj m=>aA (bQ 0 j m) λn o=>aA (bQ 1 j o) λp q=>a! (ss 3 p (ss 2 n f)) q
def yV:Rg:=λf h=>gtO (ge 0 f) λa=>gtO (ge 1 f) λb=>gtO (ge 2 f) λc=>gtO (ge 4 f) λd=>gtO (ge 5 f) λi=>aA (jB [a,b,c,d,i] h) λj m=>aA (bQ 0 j m) λn o=>aA (bQ 1 j o) λp q=>a! (ss 2 p (ss 1 n f)) q
def yU:=rM 12 2
def rY:Rg:=(aB yZ (aB yY (aB yX (aB yV (aB yU c!)))))
def nK:Fun:=bD b! (kp [0,1,2,3,4,5,12]) Tryz.f491.ntmps [.tmp 12] rY
theorem Pv(x0 x1 a b c d:V)(h:Hp):nK [x0,x1,a,b,c,d] h=aU b! [.tmp 12] (rY (ss 5 d (ss 4 c (ss 3 b (ss 2 a (ss 1 x1 (ss 0 x0 T.nil)))))) h):=kR
theorem UJ:aG b! aJ 491 nK:=prX aN [] [] (aV UI bF) Tryz.func491
def uq:Rg:=λf h=>a! (ss 9 (Y U 0) (ss 8 (Y U 0) f)) h
def uo:=r2 10 2 1 λa b h=>aI .sub .none a b h
def um:Rg:=λf h=>aA (fE 3 [(Y U 0)] h) λa b=>a! (ss 11 a f) b
def uj:Rg:=λf h=>gtO (ge 1 f) λa=>gtO (ge 10 f) λb=>aA (aI .quo .none b (Y U 4) h) λc d=>aA (aI .mul .none c (Y U 1) d) λi j=>aA (aI .add .none a i j) λm n=>a! (ss 12 m f) n
def uh:Rg:=λf h=>gtO (ge 1 f) λa=>gtO (ge 10 f) λb=>aA (aI .quo .none b (Y U 4) h) λc d=>aA (aI .mul .none c (Y U 2) d) λi j=>aA (aI .add .none a i j) λm n=>a! (ss 13 m f) n
def ug:Rg:=λf h=>gtO (ge 1 f) λa=>gtO (ge 10 f) λb=>aA (aI .quo .none b (Y U 4) h) λc d=>aA (aI .mul .none c (Y U 3) d) λi j=>aA (aI .add .none a i j) λm n=>a! (ss 14 m f) n
def uf:=r1 34 10 λa h=>aI .geq .none a (Y U 8) h
def tZ:=r1 36 10 λa h=>aI .geq .none a (Y U 50) h
def rD:Rg:=λf h=>gtO (ge 0 f) λa=>gtO (ge 12 f) λb=>gtO (ge 13 f) λc=>gtO (ge 14 f) λd=>gtO (ge 3 f) λi=>gtO (ge 11 f) λj=>aA (nK [a,b,c,d,j,i] h) λm n=>a! (ss 13 m f) n
def rq:=r1 55 11 λa h=>aF a h
def qZ:=r1 57 55 λa h=>aI .eql .none a (Y U 0) h
def qY:Rg:=λf h=>gtO (ge 13 f) λa=>a! (ss 9 (Y U 1) (ss 8 a f)) h
def nX:Rg:=(aB uq (aB uo (aB um (aB uj (aB uh (aB ug (aB (aB uf (aT (.tmp 34) (aB (aB tZ (aT (.tmp 36) zz a!)) rD) a!)) (aB rq (bG 0 (aB qZ (aT (.tmp 57) (aB qY c!) zz)))))))))))
def kK:Fun:=bD b! (kp [0,1,2,3,8,9,10,11,12,13,14,34,36,55,57,60]) Tryz.f430.ntmps [.tmp 8,.tmp 9] nX
theorem F6(x0 x1 a b:V)(h:Hp):kK [x0,x1,a,b] h=aU b! [.tmp 8,.tmp 9] (nX (ss 3 b (ss 2 a (ss 1 x1 (ss 0 x0 T.nil)))) h):=kR
theorem Lc:aG b! aJ 430 kK:=prX aN [8,9,10,16,17,13] [] (aV UJ bF) Tryz.func430
def jS:FuncId->Option Fun:=rF [(284,qN)]
def nC:=rC 8 (K false)
def ny:=r1 9 1 λa h=>aI .add .none a (Y U 1) h
def ni:=rC 10 (Y U 0)
def ng:=r1 16 10 λa h=>aI .lss .none a (Y U 5) h
def jF:Rg:=λf h=>gtO (ge 9 f) λa=>gtO (ge 2 f) λb=>aA (aI .lss .none a b (aH 0 h)) λc _=>ifB c (gtO (ge 3 f) λd=>gtO (ge 0 f) λi=>gtO (ge 9 f) λj=>aA (aX 9 i j (aH 0 h)) λm _=>aA (bT 9 m (aH 0 h)) λn _=>gtO (ge 0 f) λo=>gtO (ge 9 f) λp=>aA (aI .sub .none p (Y U 1) (aH 0 h)) λq _=>aA (aX 9 o q (aH 0 h)) λr _=>aA (bT 9 r (aH 0 h)) λs _=>aA (dI jS d [n,s] (aH 0 h)) λt u=>aA (aI .lss .none t (Y U 0) u) λv _=>aA (oUn .not v u) λw _=>a! (ss 36 w f) u) (a! (ss 36 (K false) f) (aH 0 h))
def mY:=r1 9 9 λa h=>aI .add .none a (Y U 1) h
def mX:=r2 41 9 2 λa b h=>aI .eql .none a b h
def mW:=rC 8 (K true)
def mZ:=r1 10 10 λa h=>aI .add .none a (Y U 1) h
def jG:Rg:=(aB (aB jF (aT (.tmp 36) a! (Out.ex 2))) (bG 3 mY))
def abC:Rg:=zz
def abB:Rg:=zz
def nD:Rg:=(aB (aB ng (aT (.tmp 16) a! (Out.ex 0))) (aB (bG 1 (aB (bG 2 (dH jG lf)) (aB (aB mX (aT (.tmp 41) (aB mW c!) a!)) zz))) mZ))
def iO:Rg:=(aB nC (aB ny (aB (aB ni (bG 0 (dH nD lf))) zz)))
def iP:Fun:=bD b! (kp [0,1,2,3,8,9,10,11,12,16,36,41,45,65,69,84,104,109,124]) Tryz.f432.ntmps [.tmp 8] iO
theorem xE(x0 x1 a b:V)(h:Hp):iP [x0,x1,a,b] h=aU b! [.tmp 8] (iO (ss 3 b (ss 2 a (ss 1 x1 (ss 0 x0 T.nil)))) h):=kR
theorem zD:aG b! aJ 432 iP:=prX aN [9,10,11,12,13,14,16,17,15,18,19,20,22,23,21,24] [(5,[0,0,3,7,15,15,15,111,239,15,15,1039,3599,7695,16383,32767,65535,131071],gm [0,16,32,48,64,80,96,112,131,144,160,176,192,211,226,240,256,272])] (aV Uw bF) Tryz.func432
def mG:FuncId->Option Fun:=rF [(284,qN)]
def qF:=r1 8 1 λa h=>aI .add .none a (Y U 1) h
def lq:=r2 14 8 2 λa b h=>aI .lss .none a b h
def qE:=rM 9 8
def qC:Rg:=λf h=>gtO (ge 9 f) λa=>gtO (ge 1 f) λb=>aA (aI .gtr .none a b (aH 0 h)) λc _=>ifB c (gtO (ge 3 f) λd=>gtO (ge 0 f) λi=>gtO (ge 9 f) λj=>aA (aX 9 i j (aH 0 h)) λm _=>aA (bT 9 m (aH 0 h)) λn _=>gtO (ge 0 f) λo=>gtO (ge 9 f) λp=>aA (aI .sub .none p (Y U 1) (aH 0 h)) λq _=>aA (aX 9 o q (aH 0 h)) λr _=>aA (bT 9 r (aH 0 h)) λs _=>aA (dI mG d [n,s] (aH 0 h)) λt u=>aA (aI .lss .none t (Y U 0) u) λv _=>a! (ss 34 v f) u) (a! (ss 34 (K false) f) (aH 0 h))
def kZ:=r1 8 8 λa h=>aI .add .none a (Y U 1) h
def qM:Rg:=(aB (aB qC (aT (.tmp 34) a! (Out.ex 2))) zz)
def lD:Rg:=(aB (aB lq (aT (.tmp 14) a! (Out.ex 0))) (aB (bG 1 (aB qE (bG 2 (dH qM lf)))) kZ))
def jP:Rg:=(aB qF (bG 0 (dH lD lf)))
def jR:Fun:=bD b! (kp [0,1,2,3,8,9,14,34]) Tryz.f427.ntmps [] jP
theorem Dx(x0 x1 a b:V)(h:Hp):jR [x0,x1,a,b] h=aU b! [] (jP (ss 3 b (ss 2 a (ss 1 x1 (ss 0 x0 T.nil)))) h):=kR
theorem IX:aG b! aJ 427 jR:=prX aN [6,5] [(4,[0,0,3,7,15,15,15,111,239,15,15,1039,3599,7695,16383,32767,65535],gm [0,16,32,48,64,80,96,112,131,144,160,176,192,211,226,240,256])] (aV Uw bF) Tryz.func427
def xW:=rC 10 (K true)
def xU:=rC 11 (K true)
def o8:=r2 12 2 1 λa b h=>aI .sub .none a b h
def oZ:=r1 25 12 λa h=>aI .leq .none a (Y U 12) h
def xR:Rg:=λf h=>gtO (ge 0 f) λa=>gtO (ge 1 f) λb=>gtO (ge 2 f) λc=>gtO (ge 4 f) λd=>aA (jR [a,b,c,d] h) λi j=>a! f j
def xQ:=r1 32 3 λa h=>aI .eql .none a (Y U 0) h
def xP:=r1 39 10 λa h=>oUn .not a h
def wB:Rg:=λf h=>gtO (ge 0 f) λa=>gtO (ge 1 f) λb=>gtO (ge 2 f) λc=>gtO (ge 4 f) λd=>aA (kK [a,b,c,d] h) λi j=>aA (bQ 0 i j) λm n=>aA (bQ 1 i n) λo p=>a! (ss 14 o (ss 13 m f)) p
def wz:=r1 56 14 λa h=>aI .eql .none a (Y U 2) h
def wu:Rg:=λf h=>gtO (ge 10 f) λa=>ifB a (gtO (ge 11 f) λb=>ifB b (gtO (ge 14 f) λc=>aA (aI .eql .none c (Y U 1) h) λd i=>a! (ss 75 d f) i) (a! (ss 75 (K false) f) h)) (a! (ss 75 (K false) f) h)
def wo:Rg:=λf h=>gtO (ge 0 f) λa=>gtO (ge 1 f) λb=>gtO (ge 2 f) λc=>gtO (ge 4 f) λd=>aA (iP [a,b,c,d] h) λi j=>a! (ss 80 i f) j
def o9:Rg:=(bG 1 (aB o8 (aB (aB oZ (aT (.tmp 25) (aB xR c!) a!)) (aB (aB xQ (aT (.tmp 32) zz a!)) (aB (aB xP (aT (.tmp 39) zz a!)) (aB wB (aB (aB wz (aT (.tmp 56) zz a!)) (aB (aB wu (aT (.tmp 75) (aB wo (aT (.tmp 80) c! a!)) a!)) zz))))))))
def mJ:Rg:=(aB xW (aB xU (bG 0 (dH o9 lf))))
def mO:Fun:=bD b! (kp [0,1,2,3,4,10,11,12,13,14,15,16,17,18,19,20,25,32,39,56,75,80,97,125]) Tryz.f368.ntmps [] mJ
theorem Ol(x0 x1 a b c:V)(h:Hp):mO [x0,x1,a,b,c] h=aU b! [] (mJ (ss 4 c (ss 3 b (ss 2 a (ss 1 x1 (ss 0 x0 T.nil))))) h):=kR
theorem Ux:aG b! aJ 368 mO:=prX aN [6,8,9,12,13,14,17,18,19,20,21,22,23,24,25,26,27,28,29,30] [] (aV IX (aV Lc (aV zD bF))) Tryz.func368
def GN:=r1 4 0 λa h=>aZ 2 a h
def GL:Rg:=λf h=>gtO (ge 0 f) λa=>gtO (ge 4 f) λb=>aA (jV .u64 b h) λc d=>aA (Le [c] d) λi j=>gtO (ge 1 f) λm=>aA (mO [a,(Y U 0),b,i,m] j) λn o=>a! f o
def Ar:Rg:=(aB GN GL)
def uI:Fun:=bD b! (kp [0,1,4]) Tryz.f283.ntmps [] Ar
theorem Zu(x0 x1:V)(h:Hp):uI [x0,x1] h=aU b! [] (Ar (ss 1 x1 (ss 0 x0 T.nil)) h):=kR
theorem ags:aG b! aJ 283 uI:=prX aN [] [] (aV ak0 (aV Ux bF)) Tryz.func283
def ajB:Rg:=λf h=>a! (ss 3 (Y U 0) (ss 2 .aO f)) h
def ajA:=r1 6 0 λa h=>nM [a,(.func (.func 79) .nil .nil)] h
def ajz:=r1 4 0 λa h=>qO [a] h
def ajy:Rg:=λf h=>gtO (ge 4 f) λa=>aA (mM [a] h) λb c=>a! f c
def ajx:=r1 4 4 λa h=>uM [a] h
def ajw:Rg:=λf h=>gtO (ge 4 f) λa=>aA (aZ 2 a h) λb c=>aA (aI .gtr .none b (Y U 16) c) λd i=>a! (ss 15 d f) i
def ajv:Rg:=λf h=>gtO (ge 4 f) λa=>a! (ss 3 (Y U 0) (ss 2 a f)) h
def agm:Rg:=(aB ajB (aB (aB ajA (aT (.tmp 6) zz a!)) (aB ajz (aB ajy (aB ajx (aB (aB ajw (aT (.tmp 15) zz a!)) (aB ajv c!)))))))
def Ot:Fun:=bD b! (kp [0,2,3,4,6,15]) Tryz.f32.ntmps [.tmp 2,.tmp 3] agm
theorem awg(x0:V)(h:Hp):Ot [x0] h=aU b! [.tmp 2,.tmp 3] (agm (ss 0 x0 T.nil) h):=kR
theorem aq6:aG b! aJ 32 Ot:=prX aN [2,7] [] (aV UK (aV Uy (aV anP (aV agw bF)))) Tryz.func32
def anD:=r1 9 0 λa h=>aI .eql (.ptr 3) a .bY h
def anC:Rg:=λf h=>gtO (ge 1 f) λa=>aA (aZ 2 a h) λb c=>a! (ss 12 (Y U 0) (ss 11 b (ss 10 a f))) c
def anB:=r2 13 12 11 λa b h=>aI .lss .none a b h
def aaP:Rg:=λf h=>gtO (ge 10 f) λa=>gtO (ge 12 f) λb=>aA (aX 4 a b h) λc d=>aA (bT 4 c d) λi j=>aA (fE 85 [(Y U 0),(Y U 0),(Y U 0),(Y U 0)] j) λm n=>aA (aQ 4 m i n) λ_ o=>a! (ss 5 m f) o
def aaO:Rg:=λf h=>gtO (ge 0 f) λa=>aA (aP a h) λb c=>aA (aC 1 b c) λd i=>aA (aF d i) λj m=>aA (aZ 2 j m) λn o=>a! (ss 6 n f) o
def aaN:Rg:=λf h=>gtO (ge 6 f) λa=>aA (aI .gtr .none a (Y U 0) (aH 0 h)) λb _=>ifB b (gtO (ge 5 f) λc=>aA (aC 0 c (aH 0 h)) λd _=>aA (aF d (aH 0 h)) λi _=>gtO (ge 0 f) λj=>aA (aP j (aH 0 h)) λm _=>aA (aC 1 m (aH 0 h)) λn _=>aA (aF n (aH 0 h)) λo _=>gtO (ge 6 f) λp=>aA (aI .sub .none p (Y U 1) (aH 0 h)) λq _=>aA (aX 4 o q (aH 0 h)) λr _=>aA (aC 0 r (aH 0 h)) λs _=>aA (aF s (aH 0 h)) λt _=>aA (aI .lss .none i t (aH 0 h)) λu _=>a! (ss 36 u f) (aH 0 h)) (a! (ss 36 (K false) f) (aH 0 h))
def aaM(fr:F)(h:Hp):Out:=
 gtO (ge 0 fr) λa=>aA (aP a (aH 1 h)) λb _=>
 aA (aC 1 b (aH 1 h)) λc _=>
 aA (aF c (aH 1 h)) λd _=>
 gtO (ge 5 fr) λi=>aA (bT 4 i (aH 1 h)) λj _=>
 zU (eu 85 [(Y U 0),(Y U 0),(Y U 0),(Y U 0)] 1 [(0,4,j)]) λf e=>
 aA (bK 85 4 32 d (e (Hp.next h)) (Hp.put (aH 1 h) (Hp.next h) (some f))) λm n=>
 gtO (ge 0 fr) λo=>aA (aP o n) λp _=>
 aA (aC 1 p n) λq _=>
 aA (aQ 1 q m n) λ_ r=>
 a! fr r
def anA:=r1 12 12 λa h=>aI .add .none a (Y U 1) h
def anz:Rg:=λf h=>gtO (ge 0 f) λa=>aA (aP a (aH 0 h)) λb _=>aA (aC 1 b (aH 0 h)) λc _=>aA (aF c (aH 0 h)) λd _=>aA (aZ 2 d (aH 0 h)) λi _=>gtO (ge 0 f) λj=>aA (aP j (aH 0 h)) λm _=>aA (aC 0 m (aH 0 h)) λn _=>aA (aF n (aH 0 h)) λo _=>aA (aI .sub .none i o (aH 0 h)) λp _=>a! (ss 7 p f) (aH 0 h)
def anx:=r1 59 7 λa h=>aI .gtr .none a (Y U 0) h
def anZ:Rg:=(aB anB (aB (aT (.tmp 13) a! (Out.ex 0)) (aB (bG 1 (aB aaP (aB (aB aaO (aB aaN (aT (.tmp 36) (Out.ex 0) a!))) aaM))) anA)))
def abo:Rg:=(aB (aB anD (aT (.tmp 9) c! a!)) (aB (aB anC (bG 0 (dH anZ lf))) (aB anz (aB anx (aT (.tmp 59) zz a!)))))
def Ll:Fun:=bD b! (kp [0,1,5,6,7,9,10,11,12,13,36,59]) Tryz.f38.ntmps [] abo
theorem axF(x0 x1:V)(h:Hp):Ll [x0,x1] h=aU b! [] (abo (ss 1 x1 (ss 0 x0 T.nil)) h):=kR
theorem avJ:aG b! aJ 38 Ll:=prX aN [10,11] [(5,[0,1,3,7,15,7,39,103,231,7,519,2023,4071,8167,16383,32767],gm [0,16,32,48,67,80,96,112,131,144,160,176,192,211,224,240]),(6,[0,0,2,6,14,0,32,126,255,511,1023],gm [16,32,48,67,83,97,114,0,128,144,162]),(8,[0,1,3,7,15,0,32,96,224,511,1023],gm [0,16,32,51,64,80,96,112,131,144,160])] bF Tryz.func38
def ai2:=rC 2 .bY
def ai1:=r1 5 0 λa h=>aI .eql (.ptr 3) a .bY h
def ai0:Rg:=λf h=>gtO (ge 0 f) λa=>aA (aP a h) λb c=>aA (bT 3 b c) λd i=>aA (fE 130 [(Y U 0),.aO,(Y U 0)] i) λj m=>aA (aQ 3 j d m) λ_ n=>a! (ss 3 j f) n
def aiZ:Rg:=λf h=>gtO (ge 0 f) λa=>aA (aP a h) λb c=>aA (aC 1 b c) λd i=>aA (aF d i) λj m=>aA (oQ [j] m) λn o=>gtO (ge 3 f) λp=>aA (aC 1 p o) λq r=>aA (aQ 1 q n r) λ_ s=>a! f s
def aiY:=rM 2 3
def agd:Rg:=(aB ai2 (aB (aB ai1 (aT (.tmp 5) zz a!)) (aB ai0 (aB aiZ (aB aiY c!)))))
def VZ:Fun:=bD b! (kp [0,2,3,5]) Tryz.f353.ntmps [.tmp 2] agd
theorem av5(x0:V)(h:Hp):VZ [x0] h=aU b! [.tmp 2] (agd (ss 0 x0 T.nil) h):=kR
theorem aEp:aG b! aJ 353 VZ:=prX aN [2] [] (aV anR bF) Tryz.func353
def ae8:=rC 2 (Y U 0)
def ae7:=r1 4 0 λa h=>aI .eql (.ptr 16) a .bY h
def ae6:Rg:=λf h=>gtO (ge 0 f) λa=>aA (aP a h) λb c=>aA (aC 9 b c) λd i=>aA (wH [d] i) λj m=>a! (ss 2 j f) m
def abj:Rg:=(aB ae8 (aB (aB ae7 (aT (.tmp 4) zz a!)) (aB ae6 c!)))
def Jj:Fun:=bD b! (kp [0,2,4]) Tryz.f19.ntmps [.tmp 2] abj
theorem arE(x0:V)(h:Hp):Jj [x0] h=aU b! [.tmp 2] (abj (ss 0 x0 T.nil) h):=kR
theorem anO:aG b! aJ 19 Jj:=prX aN [2] [] (aV VS bF) Tryz.func19
def afb:=rC 2 .aO
def afa:=r1 4 0 λa h=>aI .eql (.ptr 16) a .bY h
def ae9:Rg:=λf h=>gtO (ge 0 f) λa=>aA (aP a h) λb c=>aA (aC 10 b c) λd i=>aA (aF d i) λj m=>aA (Ec [j] m) λn o=>a! (ss 2 n f) o
def abk:Rg:=(aB afb (aB (aB afa (aT (.tmp 4) zz a!)) (aB ae9 c!)))
def xC:Fun:=bD b! (kp [0,2,4]) Tryz.f24.ntmps [.tmp 2] abk
theorem arF(x0:V)(h:Hp):xC [x0] h=aU b! [.tmp 2] (abk (ss 0 x0 T.nil) h):=kR
theorem QS:aG b! aJ 24 xC:=prX aN [2] [] (aV arA bF) Tryz.func24
def acW:Rg:=λf h=>gtO (ge 0 f) λa=>aA (fO 40 a h) λb c=>aA (fE 40 [(Y U 0),(Y U 0),(H []),(Y U 0),.aO,.aO,(Y U 0),(Y U 0)] c) λd i=>a! (ss 2 d (ss 1 b f)) i
def acV:Rg:=λf h=>gtO (ge 1 f) λa=>aA (aC 4 a (aH 0 h)) λb _=>aA (aF b (aH 0 h)) λc _=>aA (qO [c] (aH 0 h)) λd i=>gtO (ge 1 f) λj=>aA (aC 5 j i) λm _=>aA (aF m i) λn _=>chk (λh=>aF m h) n ( aA (xJ [n] i) λo p=>gtO (ge 1 f) λq=>aA (aC 4 q p) λr _=>aA (aQ 1 r d p) λ_ s=>gtO (ge 1 f) λt=>aA (aC 5 t s) λu _=>aA (aQ 1 u o s) λ_ v=>a! f v) 1 [(aH 0 h)]
def acU:Rg:=λf h=>gtO (ge 1 f) λa=>aA (bT 8 a h) λb c=>gtO (ge 2 f) λd=>aA (aQ 8 d b c) λ_ i=>a! f i
def Xo:Rg:=(aB acW (aB acV (aB acU c!)))
def MB:Fun:=bD b! (kp [0,1,2]) Tryz.f43.ntmps [.cell 2 40] Xo
theorem apN(x0:V)(h:Hp):MB [x0] h=aU b! [.cell 2 40] (Xo (ss 0 x0 T.nil) h):=kR
theorem axh:aG b! aJ 43 MB:=prX aN [] [(1,[0,1,3,0,8,31,31,127,255,511],gm [0,19,34,48,68,82,96,114,128,146])] (aV Uy (aV akZ bF)) Tryz.func43
def ae2:=rC 2 .aO
def ae1:=r1 7 0 λa h=>aI .eql (.ptr 16) a .bY h
def ae0:=rC 3 .aO
def aeZ:Rg:=λf h=>gtO (ge 0 f) λa=>aA (aP a h) λb c=>aA (aC 11 b c) λd i=>aA (aF d i) λj m=>aA (aZ 2 j m) λn o=>a! (ss 13 (Y U 0) (ss 12 n (ss 11 j f))) o
def aeY:=r2 14 13 12 λa b h=>aI .lss .none a b h
def aeX:Rg:=λf h=>gtO (ge 11 f) λa=>gtO (ge 13 f) λb=>aA (aX 8 a b h) λc d=>aA (bT 8 c d) λi j=>aA (fE 40 [(Y U 0),(Y U 0),(H []),(Y U 0),.aO,.aO,(Y U 0),(Y U 0)] j) λm n=>aA (aQ 8 m i n) λ_ o=>a! (ss 5 m f) o
def aeW:Rg:=λf h=>gtO (ge 3 f) λa=>gtO (ge 5 f) λb=>aA (bT 8 b h) λc d=>aA (MB [c] d) λi j=>aA (bJ 40 [(Y U 0),(Y U 0),(H []),(Y U 0),.aO,.aO,(Y U 0),(Y U 0)] 1 [(0,8,i)] j) λm n=>aA (bK 40 8 104 a m n) λo p=>a! (ss 3 o f) p
def aeV:=r1 13 13 λa h=>aI .add .none a (Y U 1) h
def aeU:=rM 2 3
def agx:Rg:=(aB aeY (aB (aT (.tmp 14) a! (Out.ex 0)) (aB (bG 1 (aB aeX aeW)) aeV)))
def abg:Rg:=(aB ae2 (aB (aB ae1 (aT (.tmp 7) zz a!)) (aB ae0 (aB (aB aeZ (bG 0 (dH agx lf))) (aB aeU c!)))))
def xB:Fun:=bD b! (kp [0,2,3,5,7,11,12,13,14]) Tryz.f15.ntmps [.tmp 2] abg
theorem arC(x0:V)(h:Hp):xB [x0] h=aU b! [.tmp 2] (abg (ss 0 x0 T.nil) h):=kR
theorem QO:aG b! aJ 15 xB:=prX aN [2] [] (aV axh bF) Tryz.func15
def aiC:Rg:=λf h=>gtO (ge 1 f) λa=>aA (fO 3 a h) λb c=>a! (ss 4 (Y U 0) (ss 3 b f)) c
def aiB:Rg:=λf h=>gtO (ge 0 f) λa=>aA (aP a h) λb c=>aA (aC 11 b c) λd i=>aA (aF d i) λj m=>gtO (ge 3 f) λn=>aA (fC (.func 77) [] [n] m) λo p=>aA (oL [j,o] p) λq r=>a! (ss 4 q f) r
def af9:Rg:=(aB aiC (aB aiB c!))
def VW:Fun:=bD b! (kp [0,1,3,4]) Tryz.f31.ntmps [.tmp 4] af9
theorem avX(x0 x1:V)(h:Hp):VW [x0,x1] h=aU b! [.tmp 4] (af9 (ss 1 x1 (ss 0 x0 T.nil)) h):=kR
theorem aEi:aG b! aJ 31 VW:=prX aN [] [] (aV NY bF) Tryz.func31
def aiE:=rC 2 (K false)
def aiD:Rg:=λf h=>gtO (ge 0 f) λa=>aA (Jj [a] (aH 0 h)) λb c=>gtO (ge 0 f) λd=>aA (aP d c) λi _=>aA (aC 0 i c) λj _=>aA (aC 6 j c) λm _=>aA (aF m c) λn _=>chk (λh=>aF m h) n ( aA (aI .geq .none b n c) λo _=>a! (ss 2 o f) c) 1 [(aH 0 h)]
def aga:Rg:=(aB aiE (aB aiD c!))
def Oi:Fun:=bD b! (kp [0,2]) Tryz.f34.ntmps [.tmp 2] aga
theorem avZ(x0:V)(h:Hp):Oi [x0] h=aU b! [.tmp 2] (aga (ss 0 x0 T.nil) h):=kR
theorem aq3:aG b! aJ 34 Oi:=prX aN [] [(1,[0,1,0,4,12,28,60,127,255],gm [0,18,32,48,64,80,100,112,128])] (aV anO bF) Tryz.func34
def acK:=rC 6 .aO
def acJ:=r1 7 2 λa h=>yc [a] h
def acI:Rg:=λf h=>gtO (ge 7 f) λa=>aA (oK [a] h) λb c=>a! f c
def acH:=rC 8 .aO
def acG:Rg:=λf h=>gtO (ge 7 f) λa=>aA (oP [a] h) λb c=>aA (aZ 2 b c) λd i=>a! (ss 18 (Y U 0) (ss 17 d (ss 16 b f))) i
def acF:=r2 19 18 17 λa b h=>aI .lss .none a b h
def acE:Rg:=λf h=>gtO (ge 16 f) λa=>gtO (ge 18 f) λb=>aA (aX 1 a b h) λc d=>aA (aF c d) λi j=>a! (ss 10 i f) j
def acD:Rg:=λf h=>gtO (ge 0 f) λa=>gtO (ge 10 f) λb=>aA (EG [a,b] (aH 0 h)) λc d=>gtO (ge 0 f) λi=>aA (aP i d) λj _=>aA (aC 10 j d) λm _=>aA (aF m d) λn _=>chk (λh=>aF m h) n ( gtO (ge 1 f) λo=>aA (aX 6 n c d) λp _=>aA (aC 5 p d) λq _=>aA (aQ 1 q o d) λ_ r=>a! f r) 1 [(aH 0 h)]
def acC:Rg:=λf h=>gtO (ge 8 f) λa=>gtO (ge 1 f) λb=>gtO (ge 10 f) λc=>aA (bU [(Y U 0),(Y U 0),(Y U 0),(Y U 0)] [(0,1,b),(1,1,(Y U 1)),(2,1,c),(3,1,(Y U 2))] h) λd i=>aA (bJ 85 [(Y U 0),(Y U 0),(Y U 0),(Y U 0)] 1 [(0,4,d)] i) λj m=>aA (bK 85 4 32 a j m) λn o=>a! (ss 8 n f) o
def acB:=r1 18 18 λa h=>aI .add .none a (Y U 1) h
def YN:Rg:=λf h=>gtO (ge 8 f) λa=>aA (aZ 2 a h) λb c=>aA (aZ 2 a c) λd i=>aA (eU 4 a none (some b) (some d) i) λj m=>a! (ss 6 j f) m
def adJ:Rg:=(aB acF (aB (aT (.tmp 19) a! (Out.ex 0)) (aB (bG 1 (aB acE (aB acD acC))) acB)))
def Xl:Rg:=(aB acK (aB acJ (aB acI (aB acH (aB (aB acG (bG 0 (dH adJ lf))) (aB YN c!))))))
def Dw:Fun:=bD b! (kp [0,1,2,6,7,8,10,16,17,18,19]) Tryz.f39.ntmps [.tmp 6] Xl
theorem apK(x0 x1 a:V)(h:Hp):Dw [x0,x1,a] h=aU b! [.tmp 6] (Xl (ss 2 a (ss 1 x1 (ss 0 x0 T.nil))) h):=kR
theorem ajF:aG b! aJ 39 Dw:=prX aN [] [(7,[0,1,3,7,0,0,48,0,255,511,1023],gm [64,80,98,0,16,32,52,112,128,144,162])] (aV adD (aV agr (aV VR (aV abx bF)))) Tryz.func39
def aix:=rC 2 (Y U 0)
def aiw:Rg:=λf h=>gtO (ge 0 f) λa=>aA (aP a h) λb c=>aA (aC 9 b c) λd i=>aA (ZE [d,(Y U 1)] i) λj m=>a! (ss 2 j f) m
def af8:Rg:=(aB aix (aB aiw c!))
def Og:Fun:=bD b! (kp [0,2]) Tryz.f35.ntmps [.tmp 2] af8
theorem avW(x0:V)(h:Hp):Og [x0] h=aU b! [.tmp 2] (af8 (ss 0 x0 T.nil) h):=kR
theorem aq2:aG b! aJ 35 Og:=prX aN [] [] (aV aEy bF) Tryz.func35
def acA:Rg:=λf h=>gtO (ge 0 f) λa=>aA (fO 24 a h) λb c=>a! (ss 5 (K false) (ss 4 .aO (ss 2 b f))) c
def acz:=r1 6 1 λa h=>yc [a] h
def acy:Rg:=λf h=>gtO (ge 6 f) λa=>aA (oK [a] h) λb c=>a! f c
def acw:=r1 6 6 λa h=>oP [a] h
def acv:Rg:=λf h=>gtO (ge 6 f) λa=>gtO (ge 2 f) λb=>aA (fC (.func 102) [] [b] h) λc d=>aA (jD [a,c] d) λi j=>aA (oUn .not i j) λm n=>a! (ss 5 m (ss 4 a f)) n
def Xk:Rg:=(aB acA (aB acz (aB acy (aB acw (aB acv c!)))))
def Mc:Fun:=bD b! (kp [0,1,2,4,5,6]) Tryz.f45.ntmps [.tmp 4,.tmp 5] Xk
theorem apJ(x0 x1:V)(h:Hp):Mc [x0,x1] h=aU b! [.tmp 4,.tmp 5] (Xk (ss 1 x1 (ss 0 x0 T.nil)) h):=kR
theorem axe:aG b! aJ 45 Mc:=prX aN [] [] (aV adD (aV agr (aV VR (aV IY bF)))) Tryz.func45
def acT:Rg:=λf h=>aA (fE 106 [(Y U 0),(Y U 0)] h) λa b=>a! (ss 4 a f) b
def acS:Rg:=λf h=>gtO (ge 0 f) λa=>gtO (ge 1 f) λb=>aA (EG [a,b] (aH 0 h)) λc d=>gtO (ge 0 f) λi=>aA (aP i d) λj _=>aA (aC 10 j d) λm _=>aA (aF m d) λn _=>chk (λh=>aF m h) n ( aA (aX 6 n c d) λo _=>a! (ss 5 o f) d) 1 [(aH 0 h)]
def acR:Rg:=λf h=>gtO (ge 5 f) λa=>aA (aP a h) λb c=>aA (aC 4 b c) λd i=>aA (aF d i) λj m=>aA (aI .add .none j (Y U 1) m) λn o=>aA (aP a o) λp q=>aA (aC 4 p q) λr s=>aA (aQ 1 r n s) λ_ t=>a! f t
def acQ:Rg:=λf h=>gtO (ge 1 f) λa=>gtO (ge 5 f) λb=>aA (aP b h) λc d=>aA (aC 4 c d) λi j=>aA (aF i j) λm n=>aA (aI .sub .none m (Y U 1) n) λo p=>aA (bU [(Y U 0),(Y U 0)] [(0,1,a),(1,1,o)] p) λq r=>gtO (ge 4 f) λs=>aA (aQ 2 s q r) λ_ t=>a! f t
def Xn:Rg:=(aB acT (aB acS (aB acR (aB acQ c!))))
def Me:Fun:=bD b! (kp [0,1,4,5]) Tryz.f49.ntmps [.cell 4 106] Xn
theorem apM(x0 x1:V)(h:Hp):Me [x0,x1] h=aU b! [.cell 4 106] (Xn (ss 1 x1 (ss 0 x0 T.nil)) h):=kR
theorem axg:aG b! aJ 49 Me:=prX aN [] [(1,[0,1,3,7,0,0,48,127,255],gm [64,80,98,0,16,32,52,112,128])] (aV abx bF) Tryz.func49
def acu:Rg:=λf h=>gtO (ge 0 f) λa=>aA (fO 40 a h) λb c=>a! (ss 2 .aO (ss 1 b f)) c
def acs:=rC 3 .aO
def acr:Rg:=λf h=>gtO (ge 1 f) λa=>aA (aC 5 a h) λb c=>aA (aF b c) λd i=>aA (aZ 2 d i) λj m=>a! (ss 9 (Y U 0) (ss 8 j (ss 7 d f))) m
def acp:=r2 10 9 8 λa b h=>aI .lss .none a b h
def aco:Rg:=λf h=>gtO (ge 7 f) λa=>gtO (ge 9 f) λb=>aA (aX 2 a b h) λc d=>aA (bT 2 c d) λi j=>aA (fE 106 [(Y U 0),(Y U 0)] j) λm n=>aA (aQ 2 m i n) λ_ o=>a! (ss 5 m f) o
def acn:Rg:=λf h=>gtO (ge 3 f) λa=>gtO (ge 5 f) λb=>aA (aC 0 b h) λc d=>aA (aF c d) λi j=>aA (bJ 3 [(Y U 0)] 1 [(0,1,i)] j) λm n=>aA (bK 3 1 8 a m n) λo p=>a! (ss 3 o f) p
def ack:=r1 9 9 λa h=>aI .add .none a (Y U 1) h
def acj:=rM 2 3
def adI:Rg:=(aB acp (aB (aT (.tmp 10) a! (Out.ex 0)) (aB (bG 1 (aB aco acn)) ack)))
def Xj:Rg:=(aB acu (aB acs (aB (aB acr (bG 0 (dH adI lf))) (aB acj c!))))
def Dv:Fun:=bD b! (kp [0,1,2,3,5,7,8,9,10]) Tryz.f37.ntmps [.tmp 2] Xj
theorem apI(x0:V)(h:Hp):Dv [x0] h=aU b! [.tmp 2] (Xj (ss 0 x0 T.nil) h):=kR
theorem axd:aG b! aJ 37 Dv:=prX aN [] [] bF Tryz.func37
def WT:=rC 6 (Y U 0)
def WR:=r1 14 0 λa h=>aI .eql (.ptr 16) a .bY h
def WQ:=r2 7 0 1 λa b h=>VW [a,b] h
def WO:=r1 19 7 λa h=>aI .lss .none a (Y U 0) h
def WN:Rg:=λf h=>gtO (ge 2 f) λa=>aA (Ot [a] h) λb c=>aA (bQ 0 b c) λd i=>aA (bQ 1 b i) λj m=>a! (ss 9 j (ss 8 d f)) m
def WM:=r1 25 9 λa h=>aI .neq .none a (Y U 0) h
def WL:Rg:=λf h=>gtO (ge 8 f) λa=>gtO (ge 0 f) λb=>aA (aP b h) λc d=>aA (aC 11 c d) λi j=>aA (aF i j) λm n=>gtO (ge 7 f) λo=>aA (aX 8 m o n) λp q=>aA (aC 4 p q) λr s=>aA (aF r s) λt u=>aA (xI [a,t] u) λv w=>a! (ss 29 v f) w
def TI:=r1 40 0 λa h=>Oi [a] h
def TG:=r1 10 0 λa h=>Og [a] h
def TF:Rg:=λf h=>gtO (ge 0 f) λa=>aA (aP a h) λb c=>aA (aC 11 b c) λd i=>aA (aF d i) λj m=>gtO (ge 7 f) λn=>aA (aX 8 j n m) λo p=>a! (ss 11 o f) p
def TD:=rC 12 .aO
def TB:Rg:=λf h=>gtO (ge 8 f) λa=>aA (nP [a,(H [36,115,101,101,110])] (aH 0 h)) λb c=>gtO (ge 11 f) λd=>aA (aP d c) λi _=>aA (aC 4 i c) λj _=>aA (aF j c) λm _=>chk (λh=>aF j h) m ( aA (nP [m,(H [36,115,101,101,110])] c) λn o=>aA (aI .neq .bool b n o) λp _=>a! (ss 58 p f) o) 1 [(aH 0 h)]
def ae5:Rg:=λf h=>gtO (ge 11 f) λa=>aA (aP a h) λb c=>aA (bT 8 b c) λd i=>aA (Dv [d] i) λj m=>a! (ss 12 j f) m
def TA:Rg:=λf h=>gtO (ge 11 f) λa=>gtO (ge 8 f) λb=>gtO (ge 10 f) λc=>aA (aP a h) λd i=>aA (aC 4 d i) λj m=>aA (aQ 1 j b m) λ_ n=>aA (aP a n) λo p=>aA (aC 6 o p) λq r=>aA (aQ 1 q c r) λ_ s=>a! f s
def Tz(fr:F)(h:Hp):Out:=
 gtO (ge 0 fr) λa=>gtO (ge 10 fr) λb=>gtO (ge 12 fr) λc=>aA (Dw [a,b,c] (aH 1 h)) λd i=>
 gtO (ge 10 fr) λj=>gtO (ge 1 fr) λm=>aA (bU [(Y U 0),(Y U 0),(Y U 0),(Y U 0)] [(0,1,j),(1,1,(Y U 2)),(2,1,m),(3,1,(Y U 2))] i) λn _=>
 zU (eu 85 [(Y U 0),(Y U 0),(Y U 0),(Y U 0)] 1 [(0,4,n)]) λf e=>
 aA (bK 85 4 32 d (e (Hp.next h)) (Hp.put i (Hp.next h) (some f))) λo p=>
 gtO (ge 0 fr) λq=>aA (aP q p) λr _=>
 aA (aC 12 r p) λs _=>
 aA (aF s p) λt _=>chk (λh=>aF s h) t (
 aA (Ll [t,o] p) λu v=>
 a! fr v) 2 [i,(aH 1 h)]
def Tv:=rC 6 (Y U 0)
def VL:Rg:=(aB WT (aB (aB WR (aT (.tmp 14) zz a!)) (aB WQ (aB (aB WO (aT (.tmp 19) zz a!)) (aB WN (aB (bG 0 (aB WM (aT (.tmp 25) zz (aB WL (aT (.tmp 29) zz (aB TI (aT (.tmp 40) zz a!))))))) (aB TG (aB TF (aB TD (aB (aB TB (aT (.tmp 58) ae5 a!)) (aB TA (aB Tz (aB Tv c!)))))))))))))
def Oh:Fun:=bD b! (kp [0,1,2,6,7,8,9,10,11,12,14,19,25,29,40,58]) Tryz.f11.ntmps [.tmp 6] VL
theorem avY(x0 x1 a:V)(h:Hp):Oh [x0,x1,a] h=aU b! [.tmp 6] (VL (ss 2 a (ss 1 x1 (ss 0 x0 T.nil))) h):=kR
theorem aEj:aG b! aJ 11 Oh:=prX aN [2,5,8,10,12] [(16,[0,1,0,4,12,28,63,127],gm [0,18,32,48,64,84,98,112]),(19,[0,1,3,7,0,0,0,112,0,0,768,1792,4080,8191],gm [64,80,96,114,128,144,160,177,194,0,16,32,53,210])] (aV aEi (aV aq6 (aV akY (aV aq3 (aV aq2 (aV adQ (aV axd (aV ajF (aV avJ bF))))))))) Tryz.func11
def aiJ:=rC 2 .bY
def aiI:=r1 5 0 λa h=>aI .eql (.ptr 16) a .bY h
def aiH(fr:F)(h:Hp):Out:=
 gtO (ge 0 fr) λa=>aA (xC [a] (aH 1 h)) λb c=>
 gtO (ge 0 fr) λd=>aA (xB [d] c) λi j=>
 gtO (ge 0 fr) λm=>aA (aP m j) λn _=>
 aA (aC 12 n j) λo _=>
 aA (aF o j) λp _=>chk (λh=>aF o h) p (
 aA (VZ [p] j) λq r=>
 gtO (ge 0 fr) λs=>aA (aP s r) λt _=>
 aA (aC 0 t r) λu _=>
 aA (bT 9 u r) λv _=>chk (λh=>bT 9 u h) v (
 gtO (ge 0 fr) λw=>aA (aP w r) λx _=>
 aA (aC 13 x r) λy _=>
 aA (aF y r) λz _=>chk (λh=>aF y h) z (
 gtO (ge 0 fr) λC=>aA (aP C r) λE _=>
 aA (aC 14 E r) λg _=>
 aA (aF g r) λk _=>chk (λh=>aF g h) k (
 gtO (ge 0 fr) λG=>aA (aP G r) λI _=>
 aA (aC 15 I r) λl _=>
 aA (aF l r) λB _=>chk (λh=>aF l h) B (
 aA (bU [(H []),(H []),(Y U 0),(Y U 0),(Y U 0),(Y U 0),(Y U 0),(Y U 0),(Y U 0),(Y U 0),.aO,.aO,.bY,(Y U 0),(Y U 0),(Y U 0)] [(0,9,v),(10,1,b),(11,1,i),(12,1,q),(13,1,z),(14,1,k),(15,1,B)] r) λJ _=>
 zU (ako 78 J) λf e=>
 a! (ss 3 (e (Hp.next h)) fr) (Hp.put r (Hp.next h) (some f))) 3 [j,c,(aH 1 h)]) 3 [j,c,(aH 1 h)]) 3 [j,c,(aH 1 h)]) 3 [j,c,(aH 1 h)]) 2 [c,(aH 1 h)]
def aiG:Rg:=λf h=>gtO (ge 0 f) λa=>aA (aP a (aH 0 h)) λb _=>aA (aC 9 b (aH 0 h)) λc _=>aA (wH [c] (aH 0 h)) λd i=>gtO (ge 3 f) λj=>aA (aP j i) λm _=>aA (aC 9 m i) λn _=>aA (mQ [n,d] i) λo p=>a! f p
def aiF:=rM 2 3
def agb:Rg:=(aB aiJ (aB (aB aiI (aT (.tmp 5) zz a!)) (aB aiH (aB aiG (aB aiF c!)))))
def FY:Fun:=bD b! (kp [0,2,3,5]) Tryz.f252.ntmps [.tmp 2] agb
theorem av1(x0:V)(h:Hp):FY [x0] h=aU b! [.tmp 2] (agb (ss 0 x0 T.nil) h):=kR
theorem aq4:aG b! aJ 252 FY:=prX aN [2] [(3,[0,1,3,7,0,16,0,112,0,256,768,1792,4080,0,8192,24576,57344,0,131072,393216,917504,0,2097152,6291456,14680064,33554431,67108863,134217727],gm [64,82,96,114,128,144,160,181,194,0,16,32,54,208,224,240,262,272,288,304,326,336,352,368,390,400,417,432]),(4,[0,1,3,0,8,24,56,127],gm [48,64,80,98,0,16,32,114])] (aV QS (aV QO (aV aEp (aV VS (aV IZ bF))))) Tryz.func252
def am2:=r1 4 1 λa h=>FY [a] h
def am1(fr:F)(h:Hp):Out:=
 gtO (ge 0 fr) λa=>gtO (ge 4 fr) λb=>aA (aP b (aH 0 h)) λc _=>
 aA (aC 10 c (aH 0 h)) λd _=>
 aA (aF d (aH 0 h)) λi _=>
 gtO (ge 4 fr) λj=>aA (aP j (aH 0 h)) λm _=>
 aA (aC 11 m (aH 0 h)) λn _=>
 aA (aF n (aH 0 h)) λo _=>
 gtO (ge 4 fr) λp=>aA (aP p (aH 0 h)) λq _=>
 aA (aC 12 q (aH 0 h)) λr _=>
 aA (aF r (aH 0 h)) λs _=>
 gtO (ge 4 fr) λt=>aA (aP t (aH 0 h)) λu _=>
 aA (aC 13 u (aH 0 h)) λv _=>
 aA (aF v (aH 0 h)) λw _=>
 gtO (ge 4 fr) λx=>aA (aP x (aH 0 h)) λy _=>
 aA (aC 14 y (aH 0 h)) λz _=>
 aA (aF z (aH 0 h)) λB _=>
 gtO (ge 4 fr) λC=>aA (aP C (aH 0 h)) λE _=>
 aA (aC 15 E (aH 0 h)) λG _=>
 aA (aF G (aH 0 h)) λI _=>
 aA (aP a (aH 0 h)) λJ _=>
 aA (aC 10 J (aH 0 h)) λL _=>
 aA (aQ 1 L i (aH 0 h)) λ_ e=>
 gtO (ge 0 fr) λM=>aA (aP M e) λP _=>
 aA (aC 11 P e) λQ _=>
 aA (aQ 1 Q o e) λ_ f=>
 gtO (ge 0 fr) λS=>aA (aP S f) λW _=>
 aA (aC 12 W f) λZ _=>
 aA (aQ 1 Z s f) λ_ g=>
 gtO (ge 0 fr) λaq=>aA (aP aq g) λar _=>
 aA (aC 13 ar g) λau _=>
 aA (aQ 1 au w g) λ_ k=>
 gtO (ge 0 fr) λaw=>aA (aP aw k) λax _=>
 aA (aC 14 ax k) λay _=>
 aA (aQ 1 ay B k) λ_ l=>
 gtO (ge 0 fr) λba=>aA (aP ba l) λbb _=>
 aA (aC 15 bb l) λbc _=>
 aA (aQ 1 bc I l) λ_ bd=>
 a! fr bd
def am0:Rg:=λf h=>gtO (ge 4 f) λa=>aA (aP a (aH 0 h)) λb _=>aA (aC 9 b (aH 0 h)) λc _=>aA (wH [c] (aH 0 h)) λd i=>gtO (ge 0 f) λj=>aA (aP j i) λm _=>aA (aC 9 m i) λn _=>aA (mQ [n,d] i) λo p=>a! f p
def akQ:Rg:=(aB am2 (aB am1 am0))
def UC:Fun:=bD b! (kp [0,1,4]) Tryz.f253.ntmps [] akQ
theorem axw(x0 x1:V)(h:Hp):UC [x0,x1] h=aU b! [] (akQ (ss 1 x1 (ss 0 x0 T.nil)) h):=kR
theorem aGM:aG b! aJ 253 UC:=prX aN [] [(1,[0,0,0,0,0,0,0,64,192,448,0,1024,3072,7168,0,16384,49152,114688,0,262144,786432,1835008,0,4194304,12582912,29360128,0,67108864,201326592,469762048,1073741761,2147483585,4294967233,8589934531,17179869123,34359738307,68719476679,137438953415,274877906887,549755813839,1099511627727,2199023255503,4398046511071,8796093022175,17592186044383,35184372088831,70368744177663,140737488355327],gm [0,96,112,128,147,160,176,192,211,224,240,256,275,288,304,320,339,352,368,384,403,416,432,448,467,480,496,514,16,528,544,562,32,576,592,610,48,624,640,658,64,672,688,706,80,720,736,754]),(2,[0,1,3,0,8,24,56,127],gm [48,64,80,98,0,16,32,114])] (aV aq4 (aV VS (aV IZ bF))) Tryz.func253
def aci:=rC 4 .aO
def ach:=rC 5 .aO
def acg:Rg:=λf h=>gtO (ge 0 f) λa=>aA (xB [a] h) λb c=>aA (aZ 2 b c) λd i=>a! (ss 13 (Y U 0) (ss 12 d (ss 11 b f))) i
def acf:=r2 14 13 12 λa b h=>aI .lss .none a b h
def ace:Rg:=λf h=>gtO (ge 11 f) λa=>gtO (ge 13 f) λb=>aA (aX 8 a b h) λc d=>aA (bT 8 c d) λi j=>aA (fE 40 [(Y U 0),(Y U 0),(H []),(Y U 0),.aO,.aO,(Y U 0),(Y U 0)] j) λm n=>aA (aQ 8 m i n) λ_ o=>a! (ss 7 m f) o
def acd:Rg:=λf h=>gtO (ge 7 f) λa=>aA (aC 5 a h) λb c=>aA (aF b c) λd i=>aA (aZ 2 d i) λj m=>a! (ss 20 (Y U 0) (ss 19 j (ss 18 d f))) m
def ab9:=r2 21 20 19 λa b h=>aI .lss .none a b h
def OD:Rg:=λf h=>gtO (ge 18 f) λa=>gtO (ge 20 f) λb=>aA (aX 2 a b h) λc d=>aA (bT 2 c d) λi j=>aA (fE 106 [(Y U 0),(Y U 0)] j) λm n=>aA (aQ 2 m i n) λ_ o=>a! (ss 9 m f) o
def OC:Rg:=λf h=>gtO (ge 9 f) λa=>aA (aC 0 a h) λb c=>aA (aF b c) λd i=>gtO (ge 1 f) λj=>aA (aI .eql .none d j i) λm n=>a! (ss 27 m f) n
def ab8:Rg:=λf h=>gtO (ge 5 f) λa=>gtO (ge 9 f) λb=>aA (aC 1 b h) λc d=>aA (aF c d) λi j=>gtO (ge 7 f) λm=>aA (bT 8 m j) λn o=>aA (bU [(Y U 0),(Y U 0),(Y U 0),(H []),(Y U 0),.aO,.aO,(Y U 0),(Y U 0)] [(0,1,i),(1,8,n)] o) λp q=>aA (bJ 250 [(Y U 0),(Y U 0),(Y U 0),(H []),(Y U 0),.aO,.aO,(Y U 0),(Y U 0)] 1 [(0,9,p)] q) λr s=>aA (bK 250 9 112 a r s) λt u=>a! (ss 5 t f) u
def YF:=r1 20 20 λa h=>aI .add .none a (Y U 1) h
def YE:=r1 13 13 λa h=>aI .add .none a (Y U 1) h
def YD:Rg:=λf h=>gtO (ge 5 f) λa=>aA (uI [a,(.func (.func 284) .nil .nil)] h) λb c=>a! f c
def YC:=rM 4 5
def adG:Rg:=(aB ab9 (aB (aT (.tmp 21) a! (Out.ex 2)) (aB (bG 3 (aB OD (aB OC (aT (.tmp 27) ab8 a!)))) YF)))
def adH:Rg:=(aB acf (aB (aT (.tmp 14) a! (Out.ex 0)) (aB (bG 1 (aB ace (aB acd (bG 2 (dH adG lf))))) YE)))
def Xi:Rg:=(aB aci (aB ach (aB (aB acg (bG 0 (dH adH lf))) (aB YD (aB YC c!)))))
def uX:Fun:=bD b! (kp [0,1,4,5,7,9,11,12,13,14,18,19,20,21,27]) Tryz.f175.ntmps [.tmp 4] Xi
theorem apH(x0 x1:V)(h:Hp):uX [x0,x1] h=aU b! [.tmp 4] (Xi (ss 1 x1 (ss 0 x0 T.nil)) h):=kR
theorem Xt:aG b! aJ 175 uX:=prX aN [] [] (aV QO (aV ags bF)) Tryz.func175
def amZ:Rg:=λf h=>gtO (ge 1 f) λa=>aA (fO 250 a h) λb c=>a! (ss 3 b f) c
def amY:Rg:=λf h=>gtO (ge 3 f) λa=>aA (aC 0 a h) λb c=>aA (aF b c) λd i=>aA (aC 1 a i) λj m=>aA (aC 0 j m) λn o=>aA (aF n o) λp q=>aA (bU [(Y U 0)] [] q) λr s=>aA (fO 75 r s) λt u=>aA (bU [(Y U 0),(Y U 0),.bY] [(0,1,d),(1,1,p),(2,1,t)] u) λv w=>aA (fE 248 [(Y U 0),(Y U 0),.bY] w) λx y=>aA (aQ 3 x v y) λ_ z=>a! (ss 4 x f) z
def amX:Rg:=λf h=>gtO (ge 4 f) λa=>aA (aC 2 a h) λb c=>aA (aF b c) λd i=>gtO (ge 3 f) λj=>aA (aC 1 j i) λm n=>aA (aC 6 m n) λo p=>aA (aF o p) λq r=>aA (mQ [d,q] r) λs t=>a! f t
def amW(fr:F)(h:Hp):Out:=
 gtO (ge 0 fr) λa=>aA (aP a (aH 1 h)) λb _=>
 aA (aC 1 b (aH 1 h)) λc _=>
 aA (aF c (aH 1 h)) λd _=>
 gtO (ge 4 fr) λi=>aA (bT 3 i (aH 1 h)) λj _=>
 zU (eu 248 [(Y U 0),(Y U 0),.bY] 1 [(0,3,j)]) λf e=>
 aA (bK 248 3 24 d (e (Hp.next h)) (Hp.put (aH 1 h) (Hp.next h) (some f))) λm n=>
 gtO (ge 0 fr) λo=>aA (aP o n) λp _=>
 aA (aC 1 p n) λq _=>
 aA (aQ 1 q m n) λ_ r=>
 a! fr r
def amV:Rg:=λf h=>gtO (ge 0 f) λa=>gtO (ge 0 f) λb=>aA (aP b (aH 0 h)) λc _=>aA (aC 2 c (aH 0 h)) λd _=>aA (aF d (aH 0 h)) λi _=>gtO (ge 3 f) λj=>aA (aC 0 j (aH 0 h)) λm _=>aA (aF m (aH 0 h)) λn _=>aA (atd i n (aH 0 h)) λo _=>aA (aP a (aH 0 h)) λp _=>aA (aC 2 p (aH 0 h)) λq _=>aA (aQ 1 q o (aH 0 h)) λ_ r=>a! f r
def akP:Rg:=(aB amZ (aB amY (aB amX (aB amW amV))))
def abK:Fun:=bD b! (kp [0,1,3,4]) Tryz.f181.ntmps [] akP
theorem axv(x0 x1:V)(h:Hp):abK [x0,x1] h=aU b! [] (akP (ss 1 x1 (ss 0 x0 T.nil)) h):=kR
theorem aGL:aG b! aJ 181 abK:=prX aN [] [(3,[0,0,2,6,14,0,32,126,255,511,1023],gm [16,32,48,67,83,97,114,0,128,144,162]),(4,[0,0,2,6,14,0,32,126,255,511,1023],gm [0,16,32,48,67,80,99,112,128,144,162])] (aV IZ bF) Tryz.func181
def amI:Rg:=λf h=>gtO (ge 1 f) λa=>aA (fO 3 a h) λb c=>a! (ss 5 (Y U 0) (ss 4 .bY (ss 3 b f))) c
def amH:=r1 9 0 λa h=>aI .eql (.ptr 16) a .bY h
def amG:Rg:=λf h=>gtO (ge 0 f) λa=>aA (xC [a] h) λb c=>gtO (ge 3 f) λd=>aA (fC (.func 290) [] [d] c) λi j=>aA (mP [b,i] j) λm n=>aA (oUn .not m n) λo p=>a! (ss 12 o f) p
def amF:Rg:=λf h=>gtO (ge 3 f) λa=>aA (aF a h) λb c=>aA (bU [(Y U 0),.aO,(Y U 0)] [(0,1,b)] c) λd i=>aA (fO 246 d i) λj m=>a! (ss 6 j f) m
def amE:Rg:=λf h=>gtO (ge 0 f) λa=>gtO (ge 3 f) λb=>aA (aF b h) λc d=>aA (uX [a,c] d) λi j=>aA (aZ 2 i j) λm n=>a! (ss 25 (Y U 0) (ss 24 m (ss 23 i f))) n
def amD:=r2 26 25 24 λa b h=>aI .lss .none a b h
def amC:Rg:=λf h=>gtO (ge 23 f) λa=>gtO (ge 25 f) λb=>aA (aX 9 a b h) λc d=>aA (bT 9 c d) λi j=>aA (fE 250 [(Y U 0),(Y U 0),(Y U 0),(H []),(Y U 0),.aO,.aO,(Y U 0),(Y U 0)] j) λm n=>aA (aQ 9 m i n) λ_ o=>a! (ss 8 m f) o
def amB:Rg:=λf h=>gtO (ge 6 f) λa=>gtO (ge 8 f) λb=>aA (bT 9 b h) λc d=>aA (abK [a,c] d) λi j=>a! f j
def aib:=r1 25 25 λa h=>aI .add .none a (Y U 1) h
def aia:Rg:=λf h=>gtO (ge 6 f) λa=>a! (ss 5 (Y U 0) (ss 4 a f)) h
def anX:Rg:=(aB amD (aB (aT (.tmp 26) a! (Out.ex 1)) (aB (bG 2 (aB amC amB)) aib)))
def abd:Rg:=(aB amI (aB (bG 0 (aB amH (aT (.tmp 9) zz (aB amG (aT (.tmp 12) zz a!))))) (aB amF (aB (aB amE (bG 1 (dH anX lf))) (aB aia c!)))))
def abH:Fun:=bD b! (kp [0,1,3,4,5,6,8,9,12,23,24,25,26]) Tryz.f185.ntmps [.tmp 4,.tmp 5] abd
theorem axs(x0 x1:V)(h:Hp):abH [x0,x1] h=aU b! [.tmp 4,.tmp 5] (abd (ss 1 x1 (ss 0 x0 T.nil)) h):=kR
theorem aGI:aG b! aJ 185 abH:=prX aN [2,4] [] (aV QS (aV abz (aV Xt (aV aGL bF)))) Tryz.func185
def amU:=rC 2 (Y U 0)
def amT:=r1 4 0 λa h=>aI .eql (.ptr 3) a .bY h
def amS:Rg:=λf h=>gtO (ge 0 f) λa=>aA (aP a h) λb c=>aA (aC 0 b c) λd i=>aA (aF d i) λj m=>a! (ss 2 j f) m
def akO:Rg:=(aB amU (aB (aB amT (aT (.tmp 4) zz a!)) (aB amS c!)))
def abJ:Fun:=bD b! (kp [0,2,4]) Tryz.f138.ntmps [.tmp 2] akO
theorem axu(x0:V)(h:Hp):abJ [x0] h=aU b! [.tmp 2] (akO (ss 0 x0 T.nil) h):=kR
theorem aGK:aG b! aJ 138 abJ:=prX aN [2] [] bF Tryz.func138
def ah1:=rC 2 .aO
def ah0:=r1 7 0 λa h=>aI .eql (.ptr 3) a .bY h
def ahZ:=rC 3 .aO
def ahY:Rg:=λf h=>gtO (ge 0 f) λa=>aA (aP a h) λb c=>aA (aC 1 b c) λd i=>aA (aF d i) λj m=>aA (aZ 2 j m) λn o=>a! (ss 13 (Y U 0) (ss 12 n (ss 11 j f))) o
def ahX:=r2 14 13 12 λa b h=>aI .lss .none a b h
def ahW:Rg:=λf h=>gtO (ge 11 f) λa=>gtO (ge 13 f) λb=>aA (aX 3 a b h) λc d=>aA (bT 3 c d) λi j=>aA (fE 248 [(Y U 0),(Y U 0),.bY] j) λm n=>aA (aQ 3 m i n) λ_ o=>a! (ss 5 m f) o
def ahV:Rg:=λf h=>gtO (ge 3 f) λa=>gtO (ge 5 f) λb=>aA (aC 0 b h) λc d=>aA (aF c d) λi j=>aA (bJ 3 [(Y U 0)] 1 [(0,1,i)] j) λm n=>aA (bK 3 1 8 a m n) λo p=>a! (ss 3 o f) p
def ahU:=r1 13 13 λa h=>aI .add .none a (Y U 1) h
def ahT:=rM 2 3
def ajJ:Rg:=(aB ahX (aB (aT (.tmp 14) a! (Out.ex 0)) (aB (bG 1 (aB ahW ahV)) ahU)))
def af6:Rg:=(aB ah1 (aB (aB ah0 (aT (.tmp 7) zz a!)) (aB ahZ (aB (aB ahY (bG 0 (dH ajJ lf))) (aB ahT c!)))))
def FX:Fun:=bD b! (kp [0,2,3,5,7,11,12,13,14]) Tryz.f139.ntmps [.tmp 2] af6
theorem avQ(x0:V)(h:Hp):FX [x0] h=aU b! [.tmp 2] (af6 (ss 0 x0 T.nil) h):=kR
theorem agq:aG b! aJ 139 FX:=prX aN [2] [] bF Tryz.func139
def amR:=rC 2 .aO
def amQ:=r1 7 0 λa h=>aI .eql (.ptr 3) a .bY h
def amP:=rC 3 .aO
def amO:Rg:=λf h=>gtO (ge 0 f) λa=>aA (aP a h) λb c=>aA (aC 1 b c) λd i=>aA (aF d i) λj m=>aA (aZ 2 j m) λn o=>a! (ss 13 (Y U 0) (ss 12 n (ss 11 j f))) o
def amN:=r2 14 13 12 λa b h=>aI .lss .none a b h
def amM:Rg:=λf h=>gtO (ge 11 f) λa=>gtO (ge 13 f) λb=>aA (aX 3 a b h) λc d=>aA (bT 3 c d) λi j=>aA (fE 248 [(Y U 0),(Y U 0),.bY] j) λm n=>aA (aQ 3 m i n) λ_ o=>a! (ss 5 m f) o
def amL:Rg:=λf h=>gtO (ge 3 f) λa=>gtO (ge 5 f) λb=>aA (aC 1 b h) λc d=>aA (aF c d) λi j=>aA (bJ 3 [(Y U 0)] 1 [(0,1,i)] j) λm n=>aA (bK 3 1 8 a m n) λo p=>a! (ss 3 o f) p
def amK:=r1 13 13 λa h=>aI .add .none a (Y U 1) h
def amJ:=rM 2 3
def anY:Rg:=(aB amN (aB (aT (.tmp 14) a! (Out.ex 0)) (aB (bG 1 (aB amM amL)) amK)))
def akN:Rg:=(aB amR (aB (aB amQ (aT (.tmp 7) zz a!)) (aB amP (aB (aB amO (bG 0 (dH anY lf))) (aB amJ c!)))))
def abI:Fun:=bD b! (kp [0,2,3,5,7,11,12,13,14]) Tryz.f221.ntmps [.tmp 2] akN
theorem axt(x0:V)(h:Hp):abI [x0] h=aU b! [.tmp 2] (akN (ss 0 x0 T.nil) h):=kR
theorem aGJ:aG b! aJ 221 abI:=prX aN [2] [] bF Tryz.func221
def awj:Fun:=arV
theorem aNn:aG b! aJ 282 awj:=asJ Tryz.func282 kR kR kR kR
def akC:Rg:=λf h=>gtO (ge 0 f) λa=>aA (aP a h) λb c=>aA (aC 0 b c) λd i=>aA (aF d i) λj m=>aA (aI .eql (.ptr 2) j .bY m) λn o=>a! (ss 6 n f) o
def ave:Rg:=λf h=>gtO (ge 0 f) λa=>aA (aos a h) λb c=>aA (awj [b] c) λd i=>aA (X7 b! 141 d i) λj m=>aA (aP a m) λn o=>aA (aC 0 n o) λp q=>aA (aQ 1 p j q) λ_ r=>a! f r
def avd:Rg:=λf h=>gtO (ge 0 f) λa=>aA (aP a h) λb c=>aA (aC 0 b c) λd i=>aA (aF d i) λj m=>aA (aI .neq (.ptr 2) j a m) λn o=>a! (ss 19 n f) o
def anI:Rg:=(aB akC (aT (.tmp 6) ave (aB avd (aT (.tmp 19) aOX a!))))
def agD:Fun:=bD b! (kp [0,6,19]) Tryz.f173.ntmps [] anI
theorem aED(x0:V)(h:Hp):agD [x0] h=aU b! [] (anI (ss 0 x0 T.nil) h):=kR
theorem aEx:aG b! aJ 173 agD:=prX aN [] [] (aV aNn bF) Tryz.func173
def avp:Rg:=λf h=>a! (ss 5 .oH (ss 4 (Y U 0) f)) h
def avo:Rg:=λf h=>gtO (ge 0 f) λa=>aA (agD [a] h) λb c=>a! f c
def avn:Rg:=λf h=>gtO (ge 0 f) λa=>aA (aP a h) λb c=>aA (aC 1 b c) λd i=>aA (aF d i) λj m=>gtO (ge 1 f) λn=>aA (bK 5 1 1 j n m) λo p=>aA (aP a p) λq r=>aA (aC 1 q r) λs t=>aA (aQ 1 s o t) λ_ u=>a! f u
def avm:Rg:=λf h=>gtO (ge 1 f) λa=>aA (aZ 1 a h) λb c=>a! (ss 5 .oH (ss 4 b f)) c
def avy:Rg:=(aB avp (aB avo (aB avn (aB avm c!))))
def yg:Fun:=bD b! (kp [0,1,4,5]) Tryz.f96.ntmps [.tmp 4,.tmp 5] avy
theorem aEE(x0 x1:V)(h:Hp):yg [x0,x1] h=aU b! [.tmp 4,.tmp 5] (avy (ss 1 x1 (ss 0 x0 T.nil)) h):=kR
theorem anW:aG b! aJ 96 yg:=prX aN [] [] (aV aEx bF) Tryz.func96
def awi:Fun:=aez 5
theorem aNm:aG b! aJ 384 awi:=aqh (ps:=Tryz.f384.params) Tryz.func384 kR kR kR Tryz.underlying43 kR
def avc:Rg:=λf h=>gtO (ge 0 f) λa=>aA (aP a (aH 0 h)) λb _=>aA (aC 1 b (aH 0 h)) λc _=>aA (aF c (aH 0 h)) λd _=>aA (Wq d (aH 0 h)) λi j=>aA (aI .mul .none (Y U 2) i j) λm _=>gtO (ge 1 f) λn=>aA (aI .add .none m n j) λo _=>aA (awi [o] j) λp q=>gtO (ge 0 f) λr=>aA (aP r q) λs _=>aA (aC 1 s q) λt _=>aA (aF t q) λu _=>chk (λh=>aF t h) u ( aA (aZ 2 u q) λv _=>aA (eU 1 p none (some v) none q) λw _=>a! (ss 4 w f) q) 2 [j,(aH 0 h)]
def avb:Rg:=λf h=>gtO (ge 4 f) λa=>gtO (ge 0 f) λb=>aA (aP b h) λc d=>aA (aC 1 c d) λi j=>aA (aF i j) λm n=>aA (alM 1 a m n) λo p=>a! f p
def ava:Rg:=λf h=>gtO (ge 0 f) λa=>gtO (ge 4 f) λb=>aA (aP a h) λc d=>aA (aC 1 c d) λi j=>aA (aQ 1 i b j) λ_ m=>a! f m
def avx:Rg:=(aB avc (aB avb ava))
def an9:Fun:=bD b! (kp [0,1,4]) Tryz.f303.ntmps [] avx
theorem aEC(x0 x1:V)(h:Hp):an9 [x0,x1] h=aU b! [] (avx (ss 1 x1 (ss 0 x0 T.nil)) h):=kR
theorem aNo:aG b! aJ 303 an9:=prX aN [] [(0,[0,1,3,7,15,31,0,127,255,0,512,1536,3584,7680,16383,32767],gm [0,16,32,51,66,80,96,112,130,144,160,176,197,208,224,240])] (aV aNm bF) Tryz.func303
def akF:Rg:=λf h=>gtO (ge 0 f) λa=>aA (agD [a] h) λb c=>a! f c
def akE:=r1 7 1 λa h=>aI .lss .none a (Y U 0) h
def akD:Rg:=λf h=>gtO (ge 0 f) λa=>aA (aP a (aH 0 h)) λb _=>aA (aC 1 b (aH 0 h)) λc _=>aA (aF c (aH 0 h)) λd _=>aA (Wq d (aH 0 h)) λi j=>gtO (ge 0 f) λm=>aA (aP m j) λn _=>aA (aC 1 n j) λo _=>aA (aF o j) λp _=>chk (λh=>aF o h) p ( aA (aZ 2 p j) λq _=>aA (aI .sub .none i q j) λr _=>gtO (ge 1 f) λs=>aA (aI .lss .none r s j) λt _=>a! (ss 21 t f) j) 1 [(aH 0 h)]
def avf:Rg:=λf h=>gtO (ge 0 f) λa=>gtO (ge 1 f) λb=>aA (an9 [a,b] h) λc d=>a! f d
def anK:Rg:=(aB akF (aB (aB akE (aT (.tmp 7) zz a!)) (aB akD (aT (.tmp 21) avf a!))))
def aoa:Fun:=bD b! (kp [0,1,7,21]) Tryz.f204.ntmps [] anK
theorem aq8(x0 x1:V)(h:Hp):aoa [x0,x1] h=aU b! [] (anK (ss 1 x1 (ss 0 x0 T.nil)) h):=kR
theorem aNq:aG b! aJ 204 aoa:=prX aN [2] [(3,[0,1,3,7,15,0,32,96,224,480,1023,0,4095],gm [0,16,32,51,66,80,96,112,132,144,160,176,192])] (aV aEx (aV aNo bF)) Tryz.func204
def akH:=rC 2 (H [])
def akG:Rg:=λf h=>gtO (ge 0 f) λa=>aA (aP a (aH 0 h)) λb _=>aA (aC 1 b (aH 0 h)) λc _=>aA (aF c (aH 0 h)) λd _=>aA (AQ d (aH 0 h)) λi j=>gtO (ge 0 f) λm=>aA (aP m j) λn _=>aA (aC 1 n j) λo _=>aA (aF o j) λp _=>chk (λh=>aF o h) p ( aA (aZ 2 p j) λq _=>aA (Gi 5 i q j) λr s=>a! (ss 2 r f) s) 1 [(aH 0 h)]
def anM:Rg:=(aB akH (aB akG c!))
def Jm:Fun:=bD b! (kp [0,2]) Tryz.f99.ntmps [.tmp 2] anM
theorem aq9(x0:V)(h:Hp):Jm [x0] h=aU b! [.tmp 2] (anM (ss 0 x0 T.nil) h):=kR
theorem avL:aG b! aJ 99 Jm:=prX aN [] [(1,[0,1,3,7,15,0,32,96,224,480,1023,2047],gm [0,16,32,51,66,80,96,112,132,144,162,176])] bF Tryz.func99
def Zo:=rC 4 (H [])
def Zn:=r1 12 0 λa h=>aZ 2 a h
def Zm:=r1 13 12 λa h=>aI .eql .none a (Y U 0) h
def azN:=rC 4 (H [])
def ahh:=r1 15 12 λa h=>aI .eql .none a (Y U 1) h
def azM:Rg:=λf h=>gtO (ge 0 f) λa=>aA (aX 1 a (Y U 0) h) λb c=>aA (aF b c) λd i=>a! (ss 4 d f) i
def apq:=rC 5 (Y U 0)
def apo:Rg:=λf h=>gtO (ge 1 f) λa=>aA (aZ 1 a h) λb c=>aA (aI .gtr .none b (Y U 0) c) λd i=>a! (ss 22 d f) i
def azL:Rg:=λf h=>gtO (ge 1 f) λa=>aA (aZ 1 a h) λb c=>gtO (ge 0 f) λd=>aA (aZ 2 d c) λi j=>aA (aI .sub .none i (Y U 1) j) λm n=>aA (aI .quo .none (Y U 9223372036854775807) m n) λo p=>aA (aI .geq .none b o p) λq r=>a! (ss 29 q f) r
def au9:Rg:=λf h=>gtO (ge 5 f) λa=>gtO (ge 1 f) λb=>aA (aZ 1 b h) λc d=>gtO (ge 0 f) λi=>aA (aZ 2 i d) λj m=>aA (aI .sub .none j (Y U 1) m) λn o=>aA (aI .mul .none c n o) λp q=>aA (aI .add .none a p q) λr s=>a! (ss 5 r f) s
def aky:Rg:=λf h=>gtO (ge 0 f) λa=>aA (aZ 2 a h) λb c=>a! (ss 41 (Y U 0) (ss 40 b (ss 39 a f))) c
def akx:=r2 42 41 40 λa b h=>aI .lss .none a b h
def au8:Rg:=λf h=>gtO (ge 39 f) λa=>gtO (ge 41 f) λb=>aA (aX 1 a b h) λc d=>aA (aF c d) λi j=>a! (ss 7 i f) j
def au7:Rg:=λf h=>gtO (ge 7 f) λa=>aA (aZ 1 a h) λb c=>gtO (ge 5 f) λd=>aA (aI .sub .none (Y U 9223372036854775807) d c) λi j=>aA (aI .gtr .none b i j) λm n=>a! (ss 49 m f) n
def au6:Rg:=λf h=>gtO (ge 5 f) λa=>gtO (ge 7 f) λb=>aA (aZ 1 b h) λc d=>aA (aI .add .none a c d) λi j=>a! (ss 5 i f) j
def au5:=r1 41 41 λa h=>aI .add .none a (Y U 1) h
def akw:Rg:=λf h=>aA (fE 141 [.bY,.aO] h) λa b=>a! (ss 8 a f) b
def akv:Rg:=λf h=>gtO (ge 5 f) λa=>gtO (ge 8 f) λb=>aA (aoa [b,a] h) λc d=>a! f d
def aku:Rg:=λf h=>gtO (ge 0 f) λa=>aA (aX 1 a (Y U 0) h) λb c=>aA (aF b c) λd i=>gtO (ge 8 f) λj=>aA (yg [j,d] i) λm n=>a! f n
def akt:Rg:=λf h=>gtO (ge 0 f) λa=>aA (eU 1 a (some (Y U 1)) none none h) λb c=>aA (aZ 2 b c) λd i=>a! (ss 65 (Y U 0) (ss 64 d (ss 63 b f))) i
def aks:=r2 66 65 64 λa b h=>aI .lss .none a b h
def au4:Rg:=λf h=>gtO (ge 63 f) λa=>gtO (ge 65 f) λb=>aA (aX 1 a b h) λc d=>aA (aF c d) λi j=>a! (ss 10 i f) j
def au3:Rg:=λf h=>gtO (ge 1 f) λa=>gtO (ge 8 f) λb=>aA (yg [b,a] h) λc d=>a! f d
def au2:Rg:=λf h=>gtO (ge 10 f) λa=>gtO (ge 8 f) λb=>aA (yg [b,a] h) λc d=>a! f d
def au1:=r1 65 65 λa h=>aI .add .none a (Y U 1) h
def akr:=r1 4 8 λa h=>Jm [a] h
def abG:Rg:=(aB akx (aB (aT (.tmp 42) a! (Out.ex 1)) (aB (bG 2 (aB au8 (aB (aB au7 (aT (.tmp 49) zz a!)) au6))) au5)))
def abE:Rg:=(aB aks (aB (aT (.tmp 66) a! (Out.ex 3)) (aB (bG 4 (aB au4 (aB au3 au2))) au1)))
def ahj:Rg:=(aB Zo (aB (aB Zn (bG 0 (aB Zm (aT (.tmp 13) (aB azN c!) (aB ahh (aT (.tmp 15) (aB azM c!) a!)))))) (aB apq (aB (aB apo (aT (.tmp 22) (aB (aB azL (aT (.tmp 29) zz a!)) au9) a!)) (aB (aB aky (bG 1 (dH abG lf))) (aB akw (aB akv (aB aku (aB (aB akt (bG 3 (dH abE lf))) (aB akr c!))))))))))
def abU:Fun:=bD b! (kp [0,1,4,5,7,8,10,12,13,15,22,29,39,40,41,42,49,63,64,65,66]) Tryz.f128.ntmps [.tmp 4] ahj
theorem aGX(x0 x1:V)(h:Hp):abU [x0,x1] h=aU b! [.tmp 4] (ahj (ss 1 x1 (ss 0 x0 T.nil)) h):=kR
theorem asb:aG b! aJ 128 abU:=prX aN [9,15] [] (aV aNq (aV anW (aV avL bF))) Tryz.func128
def azZ:Rg:=λf h=>gtO (ge 1 f) λa=>aA (abU [a,(H [32])] (aH 0 h)) λb c=>gtO (ge 0 f) λd=>aA (aP d c) λi _=>aA (aC 5 i c) λj _=>aA (yg [j,b] c) λm n=>a! f n
def azY:Rg:=λf h=>gtO (ge 0 f) λa=>aA (aP a h) λb c=>aA (aC 5 b c) λd i=>aA (yg [d,(H [13,10])] i) λj m=>a! f m
def aBH:Rg:=(aB azZ azY)
def zC:Fun:=bD b! (kp [0,1]) Tryz.f98.ntmps [] aBH
theorem aG0(x0 x1:V)(h:Hp):zC [x0,x1] h=aU b! [] (aBH (ss 1 x1 (ss 0 x0 T.nil)) h):=kR
theorem aBV:aG b! aJ 98 zC:=prX aN [] [(0,[0,1,3,0,8,31],gm [48,66,0,16,32,82])] (aV asb (aV anW bF)) Tryz.func98
def azQ:Rg:=λf h=>aA (fE 62 [(H []),(H []),(Y U 0),(Y U 0),(Y U 0),(Y U 0),(Y U 0),(Y U 0),(Y U 0)] h) λa b=>a! (ss 2 a f) b
def azP:=r1 4 0 λa h=>aI .eql (.ptr 16) a .bY h
def azO:Rg:=λf h=>gtO (ge 0 f) λa=>aA (aP a h) λb c=>aA (aC 0 b c) λd i=>aA (bT 9 d i) λj m=>gtO (ge 2 f) λn=>aA (aQ 9 n j m) λ_ o=>a! f o
def aBF:Rg:=(aB azQ (aB (aB azP (aT (.tmp 4) zz a!)) (aB azO c!)))
def ase:Fun:=bD b! (kp [0,2,4]) Tryz.f111.ntmps [.cell 2 62] aBF
theorem aGY(x0:V)(h:Hp):ase [x0] h=aU b! [.cell 2 62] (aBF (ss 0 x0 T.nil) h):=kR
theorem aOi:aG b! aJ 111 ase:=prX aN [2] [] bF Tryz.func111
def az1:Rg:=λf h=>aA (fE 145 [(Y U 0),(H []),(K false),(K false),(K false)] h) λa b=>a! (ss 0 a f) b
def az0:Rg:=λf h=>aA (bU [(Y U 0),(H []),(K false),(K false),(K false)] [(0,1,(Y U 2)),(1,1,(H [119,111,114,100,115]))] h) λa b=>gtO (ge 0 f) λc=>aA (aQ 5 c a b) λ_ d=>a! f d
def aBI:Rg:=(aB az1 (aB az0 c!))
def abW:Fun:=bD b! (kp [0]) Tryz.f109.ntmps [.cell 0 145] aBI
theorem aG1(h:Hp):abW [] h=aU b! [.cell 0 145] (aBI T.nil h):=kR
theorem aHo:aG b! aJ 109 abW:=prX aN [] [] bF Tryz.func109
def aOg:Rg:=zz
def asc:Fun:=bD b! (kp [0]) Tryz.f136.ntmps [.cell 0 145] aOg
theorem aHm:aG b! aJ 136 asc:=prX aN [0,1] [] bF Tryz.func136
def akM:=rC 4 (K false)
def akL:Rg:=λf h=>gtO (ge 1 f) λa=>gtO (ge 0 f) λb=>aA (aZ 2 b h) λc d=>aA (aI .lss .none a c d) λi j=>ifB i (aA (aX 3 b a j) λm n=>aA (aC 0 m n) λo p=>aA (aF o p) λq r=>aA (aI .eql .none q (Y U 1) r) λs t=>a! (ss 4 s f) t) (a! (ss 4 (K false) f) j)
def anN:Rg:=(aB akM (aB akL c!))
def DJ:Fun:=bD b! (kp [0,1,4]) Tryz.f93.ntmps [.tmp 4] anN
theorem aEH(x0 x1:V)(h:Hp):DJ [x0,x1] h=aU b! [.tmp 4] (anN (ss 1 x1 (ss 0 x0 T.nil)) h):=kR
theorem aEz:aG b! aJ 93 DJ:=prX aN [] [] bF Tryz.func93
def azX:Rg:=λf h=>a! (ss 5 (K false) (ss 4 .aO f)) h
def azW:=rC 6 .aO
def azV:Rg:=λf h=>gtO (ge 0 f) λa=>aA (aP a h) λb c=>aA (aC 3 b c) λd i=>aA (aF d i) λj m=>aA (aZ 2 j m) λn o=>a! (ss 14 (Y U 0) (ss 13 n (ss 12 j f))) o
def ahi:=r2 15 14 13 λa b h=>aI .lss .none a b h
def aps:Rg:=λf h=>gtO (ge 12 f) λa=>gtO (ge 14 f) λb=>aA (aX 3 a b h) λc d=>aA (bT 3 c d) λi j=>aA (fE 149 [(Y U 0),(H []),.aO] j) λm n=>aA (aQ 3 m i n) λ_ o=>a! (ss 8 m f) o
def apr:Rg:=λf h=>gtO (ge 8 f) λa=>aA (aC 0 a h) λb c=>aA (aF b c) λd i=>aA (aI .eql .none d (Y U 3) i) λj m=>a! (ss 20 j f) m
def azU:Rg:=λf h=>a! (ss 5 (K false) (ss 4 .aO f)) h
def azT:Rg:=λf h=>gtO (ge 6 f) λa=>gtO (ge 8 f) λb=>aA (aC 1 b h) λc d=>aA (aF c d) λi j=>aA (bJ 9 [(H [])] 1 [(0,1,i)] j) λm n=>aA (bK 9 1 16 a m n) λo p=>a! (ss 6 o f) p
def azS:=r1 14 14 λa h=>aI .add .none a (Y U 1) h
def azR:Rg:=λf h=>gtO (ge 6 f) λa=>aA (aZ 2 a h) λb c=>gtO (ge 1 f) λd=>aA (aI .eql .none b d c) λi j=>a! (ss 5 i (ss 4 a f)) j
def ahk:Rg:=(aB ahi (aB (aT (.tmp 15) a! (Out.ex 0)) (aB (bG 1 (aB aps (aB (aB apr (aT (.tmp 20) (aB azU c!) a!)) azT))) azS)))
def aBG:Rg:=(aB azX (aB azW (aB (aB azV (bG 0 (dH ahk lf))) (aB azR c!))))
def abV:Fun:=bD b! (kp [0,1,4,5,6,8,12,13,14,15,20]) Tryz.f110.ntmps [.tmp 4,.tmp 5] aBG
theorem aGZ(x0 x1:V)(h:Hp):abV [x0,x1] h=aU b! [.tmp 4,.tmp 5] (aBG (ss 1 x1 (ss 0 x0 T.nil)) h):=kR
theorem aHn:aG b! aJ 110 abV:=prX aN [] [] bF Tryz.func110
def apx:Rg:=λf h=>aA (fE 145 [(Y U 0),(H []),(K false),(K false),(K false)] h) λa b=>a! (ss 4 a f) b
def apw:Rg:=λf h=>gtO (ge 1 f) λa=>aA (aP a h) λb c=>aA (aC 3 b c) λd i=>aA (aF d i) λj m=>aA (aZ 2 j m) λn o=>aA (aI .gtr .none n (Y U 0) o) λp q=>a! (ss 10 p f) q
def aAb:Rg:=λf h=>aA (abW [] h) λa b=>gtO (ge 4 f) λc=>aA (aQ 5 c a b) λ_ d=>a! f d
def aAa:Rg:=λf h=>gtO (ge 1 f) λa=>aA (bJ 9 [(H [])] 1 [(0,1,(H [42,32,67,65,80,65,66,73,76,73,84,89,32,73,77,65,80,52,114,101,118,49,32,76,73,84,69,82,65,76,43,32,85,73,68,80,76,85,83,32,77,79,86,69,32,67,79,78,68,83,84,79,82,69]))] h) λb c=>aA (zC [a,b] c) λd i=>a! f i
def az9:Rg:=λf h=>aA (bU [(Y U 0),(H []),(K false),(K false),(K false)] [] h) λa b=>gtO (ge 4 f) λc=>aA (aQ 5 c a b) λ_ d=>a! f d
def anJ:Rg:=(aB apx (aB (aB apw (aT (.tmp 10) (aB aAb c!) a!)) (aB aAa (aB az9 c!))))
def aB2:Fun:=bD b! (kp [1,4,10]) Tryz.f57.ntmps [.cell 4 145] anJ
theorem aG4(x0 x1:V)(h:Hp):aB2 [x0,x1] h=aU b! [.cell 4 145] (anJ (ss 1 x1 T.nil) h):=kR
theorem aPe:aG b! aJ 57 aB2:=prX aN [] [] (aV aHo (aV aBV bF)) Tryz.func57
def az8:Rg:=λf h=>aA (fE 145 [(Y U 0),(H []),(K false),(K false),(K false)] h) λa b=>a! (ss 4 a f) b
def az7:Rg:=λf h=>gtO (ge 1 f) λa=>aA (abV [a,(Y U 2)] h) λb c=>aA (bQ 0 b c) λd i=>aA (bQ 1 b i) λj m=>a! (ss 6 j (ss 5 d f)) m
def az6:=r1 14 6 λa h=>oUn .not a h
def az5:Rg:=λf h=>gtO (ge 1 f) λa=>aA (aP a h) λb c=>aA (aC 1 b c) λd i=>aA (aF d i) λj m=>aA (ase [j] m) λn o=>aA (fE 62 [(H []),(H []),(Y U 0),(Y U 0),(Y U 0),(Y U 0),(Y U 0),(Y U 0),(Y U 0)] o) λp q=>aA (aQ 9 p n q) λ_ r=>a! (ss 7 p f) r
def az4:Rg:=λf h=>gtO (ge 5 f) λa=>aA (aX 1 a (Y U 0) (aH 0 h)) λb _=>aA (aF b (aH 0 h)) λc _=>gtO (ge 7 f) λd=>aA (aC 0 d (aH 0 h)) λi _=>aA (aF i (aH 0 h)) λj _=>aA (aI .neq .none c j (aH 0 h)) λm _=>ifB m (a! (ss 34 (K true) f) (aH 0 h)) (gtO (ge 5 f) λn=>aA (aX 1 n (Y U 1) (aH 0 h)) λo _=>aA (aF o (aH 0 h)) λp _=>gtO (ge 7 f) λq=>aA (aC 1 q (aH 0 h)) λr _=>aA (aF r (aH 0 h)) λs _=>aA (aI .neq .none p s (aH 0 h)) λt _=>a! (ss 34 t f) (aH 0 h))
def az3:Rg:=λf h=>gtO (ge 0 f) λa=>aA (aP a h) λb c=>aA (aC 0 b c) λd i=>aA (aQ 1 d (K true) i) λ_ j=>a! f j
def az2:Rg:=λf h=>aA (bU [(Y U 0),(H []),(K false),(K false),(K false)] [] h) λa b=>gtO (ge 4 f) λc=>aA (aQ 5 c a b) λ_ d=>a! f d
def aBK:Rg:=(aB az8 (aB az7 (aB (aB az6 (aT (.tmp 14) zz a!)) (aB (aB az5 (aB az4 (aT (.tmp 34) zz a!))) (aB az3 (aB az2 c!))))))
def asf:Fun:=bD b! (kp [0,1,4,5,6,7,14,34]) Tryz.f60.ntmps [.cell 4 145] aBK
theorem aG3(x0 x1:V)(h:Hp):asf [x0,x1] h=aU b! [.cell 4 145] (aBK (ss 1 x1 (ss 0 x0 T.nil)) h):=kR
theorem aOk:aG b! aJ 60 asf:=prX aN [3,6] [(5,[0,1,3,0,8,31,63,127,255,511,127,1151,4095,8191],gm [0,16,35,48,67,80,96,112,128,147,160,179,192,208])] (aV aHn (aV aOi bF)) Tryz.func60
abbrev Xx:Fun:=Ik.auV
theorem axb:aG b! aJ 120 Xx:=Ik.aGt
def YK:Rg:=λf h=>gtO (ge 1 f) λa=>aA (fO 3 a h) λb c=>a! (ss 4 (Y U 0) (ss 3 b f)) c
def YJ:Rg:=λf h=>gtO (ge 0 f) λa=>gtO (ge 3 f) λb=>aA (fC (.func 301) [] [b] h) λc d=>aA (kQ [a,c] d) λi j=>a! (ss 4 i f) j
def Ur:Rg:=(aB YK (aB YJ c!))
def Jg:Fun:=bD b! (kp [0,1,3,4]) Tryz.f201.ntmps [.tmp 4] Ur
theorem an4(x0 x1:V)(h:Hp):Jg [x0,x1] h=aU b! [.tmp 4] (Ur (ss 1 x1 (ss 0 x0 T.nil)) h):=kR
theorem avF:aG b! aJ 201 Jg:=prX aN [] [] (aV vG bF) Tryz.func201
def GU:Rg:=λf h=>gtO (ge 0 f) λa=>aA (aZ 2 a h) λb c=>aA (aI .sub .none b (Y U 1) c) λd i=>a! (ss 3 d (ss 2 (Y U 0) f)) i
def GR:=r2 9 2 3 λa b h=>aI .lss .none a b h
def I7:Rg:=(aB (aB GR (aT (.tmp 9) a! (Out.ex 0))) zz)
def uD:Rg:=(aB GU (bG 0 (dH I7 lf)))
def uJ:Fun:=bD b! (kp [0,2,3,9]) Tryz.f202.ntmps [] uD
theorem Zw(x0:V)(h:Hp):uJ [x0] h=aU b! [] (uD (ss 0 x0 T.nil) h):=kR
theorem agt:aG b! aJ 202 uJ:=prX aN [3,2] [] bF Tryz.func202
def air:=rC 4 (H [])
def aiq:=rC 5 .aO
def aip:=r2 6 0 1 λa b h=>Jg [a,b] h
def aio:Rg:=λf h=>gtO (ge 6 f) λa=>aA (aI .lss .none a (Y U 0) h) λb c=>ifB b (a! (ss 18 (K true) f) c) (gtO (ge 5 f) λd=>aA (aZ 2 d c) λi j=>gtO (ge 0 f) λm=>aA (aZ 2 m j) λn o=>aA (aI .eql .none i n o) λp q=>a! (ss 18 p f) q)
def ain:Rg:=λf h=>gtO (ge 5 f) λa=>gtO (ge 0 f) λb=>gtO (ge 6 f) λc=>aA (aX 6 b c h) λd i=>aA (aC 1 d i) λj m=>aA (aF j m) λn o=>aA (bJ 9 [(H [])] 1 [(0,1,n)] o) λp q=>aA (bK 9 1 16 a p q) λr s=>a! (ss 5 r f) s
def aim:Rg:=λf h=>gtO (ge 0 f) λa=>gtO (ge 6 f) λb=>aA (aX 6 a b h) λc d=>aA (aC 2 c d) λi j=>aA (aF i j) λm n=>a! (ss 1 m f) n
def ail:=r1 33 1 λa h=>aI .eql .none a (Y U 0) h
def aik:Rg:=λf h=>gtO (ge 5 f) λa=>aA (uJ [a] h) λb c=>a! f c
def aij:=r1 4 5 λa h=>abU [a,(H [47])] h
def ajL:Rg:=(bG 1 (aB aip (aB (aB aio (aT (.tmp 18) zz a!)) (aB ain (aB aim (aB ail (aT (.tmp 33) (Out.ex 0) a!)))))))
def VK:Rg:=(aB air (aB aiq (aB a! (aB (bG 0 (dH ajL lf)) (aB aik (aB aij c!))))))
def VT:Fun:=bD b! (kp [0,1,4,5,6,18,33]) Tryz.f122.ntmps [.tmp 4] VK
theorem avU(x0 x1:V)(h:Hp):VT [x0,x1] h=aU b! [.tmp 4] (VK (ss 1 x1 (ss 0 x0 T.nil)) h):=kR
theorem aEg:aG b! aJ 122 VT:=prX aN [4] [] (aV avF (aV agt (aV asb bF))) Tryz.func122
def WJ:Rg:=λf h=>a! (ss 5 (K false) (ss 4 (Y U 0) f)) h
def WI:Rg:=λf h=>gtO (ge 1 f) λa=>aA (yh [a] h) λb c=>aA (yh [(H [73,78,66,79,88])] c) λd i=>aA (aI .eql .none b d i) λj m=>a! (ss 11 j f) m
def aiv:=rC 1 (H [73,78,66,79,88])
def WH:Rg:=λf h=>gtO (ge 0 f) λa=>aA (aZ 2 a h) λb c=>a! (ss 14 (Y U 0) (ss 13 b (ss 12 a f))) c
def aiu:=r2 15 14 13 λa b h=>aI .lss .none a b h
def WG:Rg:=λf h=>gtO (ge 12 f) λa=>gtO (ge 14 f) λb=>aA (aX 6 a b h) λc d=>aA (bT 6 c d) λi j=>aA (fE 55 [(Y U 0),(H []),(Y U 0),(Y U 0),(Y U 0),(Y U 0)] j) λm n=>aA (aQ 6 m i n) λ_ o=>a! (ss 7 m f) o
def WC:Rg:=λf h=>gtO (ge 1 f) λa=>aA (aI .neq .none a (H []) h) λb c=>ifB b (gtO (ge 0 f) λd=>gtO (ge 7 f) λi=>aA (aC 0 i c) λj m=>aA (aF j m) λn o=>aA (VT [d,n] o) λp q=>aA (aI .eql .none p a q) λr s=>a! (ss 27 r f) s) (a! (ss 27 (K false) f) c)
def ait:Rg:=λf h=>gtO (ge 7 f) λa=>aA (aC 0 a h) λb c=>aA (aF b c) λd i=>a! (ss 5 (K true) (ss 4 d f)) i
def ais:=r1 14 14 λa h=>aI .add .none a (Y U 1) h
def WB:Rg:=λf h=>a! (ss 5 (K false) (ss 4 (Y U 0) f)) h
def ajM:Rg:=(aB aiu (aB (aT (.tmp 15) a! (Out.ex 0)) (aB (bG 1 (aB WG (aB WC (aT (.tmp 27) (aB ait c!) a!)))) ais)))
def NW:Rg:=(aB WJ (aB (aB WI (aT (.tmp 11) aiv a!)) (aB (aB WH (bG 0 (dH ajM lf))) (aB WB c!))))
def VU:Fun:=bD b! (kp [0,1,4,5,7,11,12,13,14,15,27]) Tryz.f187.ntmps [.tmp 4,.tmp 5] NW
theorem avV(x0 x1:V)(h:Hp):VU [x0,x1] h=aU b! [.tmp 4,.tmp 5] (NW (ss 1 x1 (ss 0 x0 T.nil)) h):=kR
theorem aEh:aG b! aJ 187 VU:=prX aN [] [] (aV Zt (aV aEg bF)) Tryz.func187
def ajj:Rg:=λf h=>a! (ss 5 (Y U 0) (ss 4 (Y U 0) f)) h
def aji:Rg:=λf h=>gtO (ge 1 f) λa=>aA (Xx [a] h) λb c=>aA (bQ 0 b c) λd i=>aA (bQ 1 b i) λj m=>a! (ss 7 j (ss 6 d f)) m
def ajh:=r1 16 7 λa h=>aI .neq .none a (Y U 0) h
def ajg:Rg:=λf h=>gtO (ge 0 f) λa=>aA (aP a h) λb c=>aA (aC 1 b c) λd i=>aA (aF d i) λj m=>aA (xC [j] m) λn o=>gtO (ge 6 f) λp=>aA (VU [n,p] o) λq r=>aA (bQ 0 q r) λs t=>aA (bQ 1 q t) λu v=>a! (ss 9 u (ss 8 s f)) v
def ajf:=r1 29 9 λa h=>oUn .not a h
def aje:Rg:=λf h=>gtO (ge 8 f) λa=>a! (ss 5 (Y U 0) (ss 4 a f)) h
def agk:Rg:=(aB ajj (aB aji (aB (aB ajh (aT (.tmp 16) zz a!)) (aB ajg (aB (aB ajf (aT (.tmp 29) zz a!)) (aB aje c!))))))
def V9:Fun:=bD b! (kp [0,1,4,5,6,7,8,9,16,29]) Tryz.f116.ntmps [.tmp 4,.tmp 5] agk
theorem awd(x0 x1:V)(h:Hp):V9 [x0,x1] h=aU b! [.tmp 4,.tmp 5] (agk (ss 1 x1 (ss 0 x0 T.nil)) h):=kR
theorem aEu:aG b! aJ 116 V9:=prX aN [3,6] [] (aV axb (aV QS (aV aEh bF))) Tryz.func116
abbrev lV:Fun:=Ik.auU
theorem Xu:aG b! aJ 126 lV:=Ik.aGs
def axa:Rg:=zz
def XD:Fun:=bD b! (kp [0,2]) Tryz.f118.ntmps [.cell 2 145] axa
theorem axn:aG b! aJ 118 XD:=prX aN [0,1] [] bF Tryz.func118
def anH:Rg:=λf h=>gtO (ge 1 f) λa=>aA (fO 3 a h) λb c=>aA (fE 55 [(Y U 0),(H []),(Y U 0),(Y U 0),(Y U 0),(Y U 0)] c) λd i=>a! (ss 4 d (ss 3 b f)) i
def anG:Rg:=λf h=>gtO (ge 0 f) λa=>aA (aP a h) λb c=>aA (aC 1 b c) λd i=>aA (aF d i) λj m=>aA (xC [j] m) λn o=>a! (ss 5 n f) o
def anF:Rg:=λf h=>gtO (ge 5 f) λa=>gtO (ge 3 f) λb=>aA (fC (.func 208) [] [b] h) λc d=>aA (kQ [a,c] d) λi j=>aA (aX 6 a i j) λm n=>aA (bT 6 m n) λo p=>gtO (ge 4 f) λq=>aA (aQ 6 q o p) λ_ r=>a! f r
def akV:Rg:=(aB anH (aB anG (aB anF c!)))
def abT:Fun:=bD b! (kp [0,1,3,4,5]) Tryz.f125.ntmps [.cell 4 55] akV
theorem axH(x0 x1:V)(h:Hp):abT [x0,x1] h=aU b! [.cell 4 55] (akV (ss 1 x1 (ss 0 x0 T.nil)) h):=kR
theorem aGU:aG b! aJ 125 abT:=prX aN [] [] (aV QS (aV vG bF)) Tryz.func125
def Ph:Rg:=λf h=>aA (fE 145 [(Y U 0),(H []),(K false),(K false),(K false)] h) λa b=>a! (ss 6 a f) b
def Pg:Rg:=λf h=>gtO (ge 1 f) λa=>aA (abV [a,(Y U 1)] h) λb c=>aA (bQ 0 b c) λd i=>aA (bQ 1 b i) λj m=>a! (ss 8 j (ss 7 d f)) m
def Pe:=r1 18 8 λa h=>oUn .not a h
def O9:Rg:=λf h=>gtO (ge 0 f) λa=>aA (aP a h) λb c=>aA (aC 1 b c) λd i=>aA (aQ 1 d .bY i) λ_ j=>aA (aP a j) λm n=>aA (aC 2 m n) λo p=>aA (aQ 1 o (K false) p) λ_ q=>a! f q
def O8:Rg:=λf h=>gtO (ge 1 f) λa=>gtO (ge 7 f) λb=>aA (aX 1 b (Y U 0) h) λc d=>aA (aF c d) λi j=>aA (V9 [a,i] j) λm n=>aA (bQ 0 m n) λo p=>aA (bQ 1 m p) λq r=>a! (ss 10 q (ss 9 o f)) r
def O7:=r1 35 10 λa h=>aI .neq .none a (Y U 0) h
def O6:Rg:=λf h=>gtO (ge 0 f) λa=>gtO (ge 1 f) λb=>aA (aP b h) λc d=>aA (aC 1 c d) λi j=>aA (aF i j) λm n=>gtO (ge 9 f) λo=>aA (abH [m,o] n) λp q=>aA (bQ 0 p q) λr s=>aA (bQ 1 p s) λt u=>aA (aP a u) λv w=>aA (aC 1 v w) λx y=>aA (aQ 1 x r y) λ_ z=>a! f z
def O5:Rg:=λf h=>gtO (ge 0 f) λa=>gtO (ge 2 f) λb=>aA (aP a h) λc d=>aA (aC 2 c d) λi j=>aA (aQ 1 i b j) λ_ m=>a! f m
def KQ:Rg:=λf h=>gtO (ge 1 f) λa=>gtO (ge 9 f) λb=>aA (abT [a,b] h) λc d=>aA (fE 55 [(Y U 0),(H []),(Y U 0),(Y U 0),(Y U 0),(Y U 0)] d) λi j=>aA (aQ 6 i c j) λ_ m=>a! (ss 11 i f) m
def KP:Rg:=λf h=>gtO (ge 1 f) λa=>aA (bJ 9 [(H [])] 1 [(0,1,(H [42,32,70,76,65,71,83,32,40,92,65,110,115,119,101,114,101,100,32,92,70,108,97,103,103,101,100,32,92,68,101,108,101,116,101,100,32,92,83,101,101,110,32,92,68,114,97,102,116,41]))] h) λb c=>aA (zC [a,b] c) λd i=>a! f i
def KO:Rg:=λf h=>gtO (ge 1 f) λa=>gtO (ge 0 f) λb=>aA (aP b h) λc d=>aA (aC 1 c d) λi j=>aA (aF i j) λm n=>aA (FX [m] n) λo p=>aA (aZ 2 o p) λq r=>aA (lV [q] r) λs t=>aA (bJ 9 [(H []),(H []),(H [])] 3 [(0,1,(H [42])),(1,1,s),(2,1,(H [69,88,73,83,84,83]))] t) λu v=>aA (zC [a,u] v) λw x=>a! f x
def KN:Rg:=λf h=>gtO (ge 1 f) λa=>aA (bJ 9 [(H [])] 1 [(0,1,(H [42,32,48,32,82,69,67,69,78,84]))] h) λb c=>aA (zC [a,b] c) λd i=>a! f i
def KL:Rg:=λf h=>gtO (ge 1 f) λa=>gtO (ge 11 f) λb=>aA (aC 3 b h) λc d=>aA (aF c d) λi j=>aA (lV [i] j) λm n=>aA (aI .add .none (H [42,32,79,75,32,91,85,73,68,86,65,76,73,68,73,84,89,32]) m n) λo p=>aA (aI .add .none o (H [93]) p) λq r=>aA (bJ 9 [(H [])] 1 [(0,1,q)] r) λs t=>aA (zC [a,s] t) λu v=>a! f v
def KJ:Rg:=λf h=>gtO (ge 1 f) λa=>gtO (ge 11 f) λb=>aA (aC 4 b h) λc d=>aA (aF c d) λi j=>aA (lV [i] j) λm n=>aA (aI .add .none (H [42,32,79,75,32,91,85,73,68,78,69,88,84,32]) m n) λo p=>aA (aI .add .none o (H [93]) p) λq r=>aA (bJ 9 [(H [])] 1 [(0,1,q)] r) λs t=>aA (zC [a,s] t) λu v=>a! f v
def KI:Rg:=λf h=>gtO (ge 1 f) λa=>aA (aP a h) λb c=>aA (aC 1 b c) λd i=>aA (aF d i) λj m=>aA (Jj [j] m) λn o=>aA (lV [n] o) λp q=>aA (aI .add .none (H [42,32,79,75,32,91,72,73,71,72,69,83,84,77,79,68,83,69,81,32]) p q) λr s=>aA (aI .add .none r (H [93]) s) λt u=>aA (bJ 9 [(H [])] 1 [(0,1,t)] u) λv w=>aA (zC [a,v] w) λx y=>a! f y
def KH:=rM 100 2
def Zj:Rg:=λf h=>aA (bU [(Y U 0),(H []),(K false),(K false),(K false)] [(1,1,(H [82,69,65,68,45,79,78,76,89])),(3,1,(K true))] h) λa b=>gtO (ge 6 f) λc=>aA (aQ 5 c a b) λ_ d=>a! f d
def Zi:Rg:=λf h=>aA (bU [(Y U 0),(H []),(K false),(K false),(K false)] [(1,1,(H [82,69,65,68,45,87,82,73,84,69])),(3,1,(K true))] h) λa b=>gtO (ge 6 f) λc=>aA (aQ 5 c a b) λ_ d=>a! f d
def LY:Rg:=(aB Ph (aB Pg (aB (aB Pe (aT (.tmp 18) zz a!)) (aB O9 (aB O8 (aB (aB O7 (aT (.tmp 35) zz a!)) (aB O6 (aB O5 (aB KQ (aB KP (aB KO (aB KN (aB KL (aB KJ (aB KI (aB (aB KH (aT (.tmp 100) (aB Zj c!) a!)) (aB Zi c!)))))))))))))))))
def DI:Fun:=bD b! (kp [0,1,2,6,7,8,9,10,11,18,35,100]) Tryz.f112.ntmps [.cell 6 145] LY
theorem apV(x0 x1 a:V)(h:Hp):DI [x0,x1,a] h=aU b! [.cell 6 145] (LY (ss 2 a (ss 1 x1 (ss 0 x0 T.nil))) h):=kR
theorem axo:aG b! aJ 112 DI:=prX aN [3,7] [] (aV aHn (aV aEu (aV aGI (aV aGU (aV aBV (aV agq (aV Xu (aV anO bF)))))))) Tryz.func112
def ai8:Rg:=λf h=>aA (fE 145 [(Y U 0),(H []),(K false),(K false),(K false)] h) λa b=>a! (ss 4 a f) b
def ai7:Rg:=λf h=>gtO (ge 0 f) λa=>gtO (ge 1 f) λb=>aA (DI [a,b,(K false)] h) λc d=>gtO (ge 4 f) λi=>aA (aQ 5 i c d) λ_ j=>a! f j
def agi:Rg:=(aB ai8 (aB ai7 c!))
def V6:Fun:=bD b! (kp [0,1,4]) Tryz.f61.ntmps [.cell 4 145] agi
theorem av8(x0 x1:V)(h:Hp):V6 [x0,x1] h=aU b! [.cell 4 145] (agi (ss 1 x1 (ss 0 x0 T.nil)) h):=kR
theorem aEr:aG b! aJ 61 V6:=prX aN [] [] (aV axo bF) Tryz.func61
def BI:=rC 4 .aO
def BH:=r1 6 1 λa h=>aI .lss .none a (Y U 0) h
def BG:Rg:=λf h=>gtO (ge 1 f) λa=>gtO (ge 0 f) λb=>aA (Wq b h) λc d=>aA (aZ 2 b d) λi j=>aA (aI .sub .none c i j) λm n=>aA (aI .sub .none a m n) λo p=>a! (ss 1 o f) p
def BF:=r1 16 1 λa h=>aI .gtr .none a (Y U 0) h
def PD:Rg:=λf h=>gtO (ge 0 f) λa=>aA (Wq a h) λb c=>aA (eU 1 a none (some b) none c) λd i=>gtO (ge 1 f) λj=>aA (Z7 9 1 16 [(H [])] d j i) λm n=>aA (aZ 2 a n) λo p=>aA (eU 1 m none (some o) none p) λq r=>a! (ss 0 q f) r
def BD:=rM 4 0
def zq:Rg:=(aB BI (aB (aB BH (aT (.tmp 6) zz a!)) (aB (aB BG (aB BF (aT (.tmp 16) PD a!))) (aB BD c!))))
def zu:Fun:=bD b! (kp [0,1,4,6,16]) Tryz.f354.ntmps [.tmp 4] zq
theorem agA(x0 x1:V)(h:Hp):zu [x0,x1] h=aU b! [.tmp 4] (zq (ss 1 x1 (ss 0 x0 T.nil)) h):=kR
theorem anQ:aG b! aJ 354 zu:=prX aN [2] [] bF Tryz.func354
def JR:=rC 2 .aO
def JQ:=rC 3 (Y U 0)
def JO:Rg:=λf h=>gtO (ge 0 f) λa=>aA (aZ 2 a h) λb c=>a! (ss 11 (Y U 0) (ss 10 b (ss 9 a f))) c
def JM:=r2 12 11 10 λa b h=>aI .lss .none a b h
def JL:Rg:=λf h=>gtO (ge 9 f) λa=>gtO (ge 11 f) λb=>aA (aX 1 a b h) λc d=>aA (aF c d) λi j=>a! (ss 5 i f) j
def JK:Rg:=λf h=>gtO (ge 3 f) λa=>gtO (ge 5 f) λb=>aA (aZ 2 b h) λc d=>aA (aI .add .none a c d) λi j=>a! (ss 3 i f) j
def JJ:=r1 20 3 λa h=>aI .lss .none a (Y U 0) h
def JI:=r1 11 11 λa h=>aI .add .none a (Y U 1) h
def JH:=r1 6 3 λa h=>zu [.aO,a] h
def Iy:Rg:=λf h=>gtO (ge 0 f) λa=>aA (aZ 2 a h) λb c=>a! (ss 27 (Y U 0) (ss 26 b (ss 25 a f))) c
def Iw:=r2 28 27 26 λa b h=>aI .lss .none a b h
def Iu:Rg:=λf h=>gtO (ge 25 f) λa=>gtO (ge 27 f) λb=>aA (aX 1 a b h) λc d=>aA (aF c d) λi j=>a! (ss 8 i f) j
def Ir:Rg:=λf h=>gtO (ge 6 f) λa=>gtO (ge 8 f) λb=>aA (bK 9 1 16 a b h) λc d=>a! (ss 6 c f) d
def Iq:=r1 27 27 λa h=>aI .add .none a (Y U 1) h
def Ip:=rM 2 6
def adS:Rg:=(aB JM (aB (aT (.tmp 12) a! (Out.ex 0)) (aB (bG 1 (aB JL (aB JK (aB JJ (aT (.tmp 20) zz a!))))) JI)))
def abD:Rg:=(aB Iw (aB (aT (.tmp 28) a! (Out.ex 2)) (aB (bG 3 (aB Iu Ir)) Iq)))
def Cb:Rg:=(aB JR (aB JQ (aB (aB JO (bG 0 (dH adS lf))) (aB JH (aB (aB Iy (bG 2 (dH abD lf))) (aB Ip c!))))))
def vI:Fun:=bD b! (kp [0,2,3,5,6,8,9,10,11,12,20,25,26,27,28]) Tryz.f254.ntmps [.tmp 2] Cb
theorem abO(x0:V)(h:Hp):vI [x0] h=aU b! [.tmp 2] (Cb (ss 0 x0 T.nil) h):=kR
theorem ahu:aG b! aJ 254 vI:=prX aN [7] [] (aV anQ bF) Tryz.func254
def ajd:Rg:=λf h=>gtO (ge 2 f) λa=>aA (fO 26 a h) λb c=>a! (ss 6 .aO (ss 5 b f)) c
def ajc:=rM 7 0
def ajb:=r1 8 7 λa h=>aI .eql .none a (Y .u8 43) h
def aja:Rg:=λf h=>gtO (ge 1 f) λa=>gtO (ge 5 f) λb=>aA (aF b h) λc d=>aA (bJ 26 [.aO,.aO] 2 [(0,1,a),(1,1,c)] d) λi j=>aA (vI [i] j) λm n=>a! (ss 6 m f) n
def agj:Rg:=(aB ajd (aB (aB ajc (bG 0 (aB ajb (aT (.tmp 8) (aB aja c!) zz)))) zz))
def V8:Fun:=bD b! (kp [0,1,2,5,6,7,8,14]) Tryz.f159.ntmps [.tmp 6] agj
theorem awc(x0 x1 a:V)(h:Hp):V8 [x0,x1,a] h=aU b! [.tmp 6] (agj (ss 2 a (ss 1 x1 (ss 0 x0 T.nil))) h):=kR
theorem aEt:aG b! aJ 159 V8:=prX aN [4,5,6] [] (aV ahu bF) Tryz.func159
def adf:Rg:=λf h=>gtO (ge 1 f) λa=>aA (fO 200 a h) λb c=>a! (ss 6 (Y U 0) (ss 5 b f)) c
def ade:Rg:=λf h=>gtO (ge 2 f) λa=>aA (aF a (aH 0 h)) λb _=>gtO (ge 5 f) λc=>aA (aC 2 c (aH 0 h)) λd _=>aA (aC 4 d (aH 0 h)) λi _=>aA (aF i (aH 0 h)) λj _=>gtO (ge 3 f) λm=>aA (aF m (aH 0 h)) λn _=>aA (V8 [b,j,n] (aH 0 h)) λo p=>gtO (ge 0 f) λq=>gtO (ge 5 f) λr=>aA (aC 2 r p) λs _=>aA (aC 0 s p) λt _=>aA (aF t p) λu _=>chk (λh=>aF t h) u ( aA (Oh [q,u,o] p) λv w=>a! (ss 6 v f) w) 1 [(aH 0 h)]
def Xp:Rg:=(aB adf (aB ade c!))
def Dy:Fun:=bD b! (kp [0,1,2,3,5,6]) Tryz.f158.ntmps [.tmp 6] Xp
theorem apQ(x0 x1 a b:V)(h:Hp):Dy [x0,x1,a,b] h=aU b! [.tmp 6] (Xp (ss 3 b (ss 2 a (ss 1 x1 (ss 0 x0 T.nil)))) h):=kR
theorem axk:aG b! aJ 158 Dy:=prX aN [] [(1,[0,0,2,6,0,0,32,96,0,496,1023,2047],gm [67,80,96,115,131,146,0,16,32,52,162,176])] (aV aEt (aV aEj bF)) Tryz.func158
def af5:FuncId->Option Fun:=rF [(252,FY),(253,UC),(158,Dy)]
def ajs:=rC 6 (Y U 0)
def ajr:Rg:=λf h=>gtO (ge 0 f) λa=>aA (aP a h) λb c=>aA (aC 1 b c) λd i=>aA (aF d i) λj m=>aA (FY [j] m) λn o=>a! (ss 7 n f) o
def ajq:Rg:=λf h=>gtO (ge 1 f) λa=>aA (aZ 2 a h) λb c=>a! (ss 18 (Y U 0) (ss 17 b (ss 16 a f))) c
def ajp:=r2 19 18 17 λa b h=>aI .lss .none a b h
def ajo:Rg:=λf h=>gtO (ge 16 f) λa=>gtO (ge 18 f) λb=>aA (aX 10 a b h) λc d=>aA (bT 10 c d) λi j=>aA (fE 200 [(Y U 0),(Y U 0),(Y U 0),(Y U 0),(H []),(Y U 0),.aO,.aO,(Y U 0),(Y U 0)] j) λm n=>aA (aQ 10 m i n) λ_ o=>a! (ss 9 m f) o
def ajn:Rg:=λf h=>gtO (ge 2 f) λa=>gtO (ge 7 f) λb=>gtO (ge 9 f) λc=>aA (bT 10 c h) λd i=>aA (dI af5 a [b,d] i) λj m=>a! (ss 10 j f) m
def ajm:=r1 27 10 λa h=>aI .neq .none a (Y U 0) h
def ajl:=r1 18 18 λa h=>aI .add .none a (Y U 1) h
def ajk:Rg:=λf h=>gtO (ge 0 f) λa=>aA (aP a h) λb c=>aA (aC 1 b c) λd i=>aA (aF d i) λj m=>gtO (ge 7 f) λn=>aA (UC [j,n] m) λo p=>a! f p
def afO:=rC 6 (Y U 0)
def axr:Rg:=(aB ajp (aB (aT (.tmp 19) a! (Out.ex 0)) (aB (bG 1 (aB ajo (aB ajn (aB ajm (aT (.tmp 27) zz a!))))) ajl)))
def VQ:Rg:=(aB ajs (aB ajr (aB (aB ajq (bG 0 (dH axr lf))) (aB ajk (aB afO c!)))))
def Wi:Fun:=bD b! (kp [0,1,2,6,7,9,10,16,17,18,19,27]) Tryz.f157.ntmps [.tmp 6] VQ
theorem awe(x0 x1 a:V)(h:Hp):Wi [x0,x1,a] h=aU b! [.tmp 6] (VQ (ss 2 a (ss 1 x1 (ss 0 x0 T.nil))) h):=kR
theorem aEv:aG b! aJ 157 Wi:=prX aN [7] [] (aV aq4 (aV aGM (aV axk bF))) Tryz.func157
def VH:=rC 4 .aO
def VG:=r1 5 1 λa h=>xB [a] h
def VF:Rg:=λf h=>gtO (ge 0 f) λa=>aA (aP a (aH 0 h)) λb _=>aA (aC 1 b (aH 0 h)) λc _=>aA (aF c (aH 0 h)) λd _=>aA (abI [d] (aH 0 h)) λi j=>gtO (ge 0 f) λm=>aA (aP m j) λn _=>aA (aC 1 n j) λo _=>aA (aF o j) λp _=>chk (λh=>aF o h) p ( aA (FX [p] j) λq r=>a! (ss 7 q (ss 6 i f)) r) 1 [(aH 0 h)]
def VE:=rC 8 .aO
def VD:Rg:=λf h=>gtO (ge 6 f) λa=>aA (aZ 2 a h) λb c=>a! (ss 26 (Y U 0) (ss 25 b (ss 24 a f))) c
def VB:=r2 27 26 25 λa b h=>aI .lss .none a b h
def zo:Rg:=λf h=>gtO (ge 26 f) λa=>gtO (ge 24 f) λb=>aA (aX 1 b a h) λc d=>aA (aF c d) λi j=>aA (fE 3 [(Y U 0)] j) λm n=>aA (aQ 1 m i n) λ_ o=>a! (ss 9 a (ss 10 m f)) o
def zn:Rg:=λf h=>gtO (ge 5 f) λa=>gtO (ge 10 f) λb=>aA (fC (.func 222) [] [b] h) λc d=>aA (oL [a,c] d) λi j=>a! (ss 11 i f) j
def zl:Rg:=λf h=>gtO (ge 11 f) λa=>aA (aI .geq .none a (Y U 0) (aH 0 h)) λb _=>ifB b (gtO (ge 0 f) λc=>aA (aP c (aH 0 h)) λd _=>aA (aC 1 d (aH 0 h)) λi _=>aA (aF i (aH 0 h)) λj _=>aA (abJ [j] (aH 0 h)) λm n=>gtO (ge 5 f) λo=>gtO (ge 11 f) λp=>aA (aX 8 o p n) λq _=>aA (aC 5 q n) λr _=>aA (aF r n) λs _=>chk (λh=>aF r h) s ( gtO (ge 7 f) λt=>gtO (ge 9 f) λu=>aA (aX 1 t u n) λv _=>aA (aF v n) λw _=>chk (λh=>aF v h) w ( aA (bU [(Y U 0),(Y U 0)] [(0,1,m),(1,1,w)] n) λx _=>aA (kV [s,x] n) λy z=>a! (ss 53 y f) z) 1 [(aH 0 h)]) 1 [(aH 0 h)]) (a! (ss 53 (K false) f) (aH 0 h))
def VA(fr:F)(h:Hp):Out:=
 gtO (ge 8 fr) λa=>gtO (ge 9 fr) λb=>aA (aI .add .none b (Y U 1) (aH 1 h)) λc _=>
 gtO (ge 7 fr) λd=>gtO (ge 9 fr) λi=>aA (aX 1 d i (aH 1 h)) λj _=>
 aA (aF j (aH 1 h)) λm _=>
 gtO (ge 5 fr) λn=>gtO (ge 11 fr) λo=>aA (aX 8 n o (aH 1 h)) λp _=>
 aA (bT 8 p (aH 1 h)) λq _=>
 aA (bU [(Y U 0),(Y U 0),(Y U 0),(Y U 0),(H []),(Y U 0),.aO,.aO,(Y U 0),(Y U 0)] [(0,1,c),(1,1,m),(2,8,q)] (aH 1 h)) λr _=>
 zU (eu 200 [(Y U 0),(Y U 0),(Y U 0),(Y U 0),(H []),(Y U 0),.aO,.aO,(Y U 0),(Y U 0)] 1 [(0,10,r)]) λf e=>
 aA (bK 200 10 120 a (e (Hp.next h)) (Hp.put (aH 1 h) (Hp.next h) (some f))) λs t=>
 a! (ss 8 s fr) t
def Uf:=r1 26 26 λa h=>aI .add .none a (Y U 1) h
def Ue:=rM 4 8
def an0:Rg:=(aB VB (aB (aT (.tmp 27) a! (Out.ex 0)) (aB (bG 1 (aB zo (aB zn (aB zl (aT (.tmp 53) VA a!))))) Uf)))
def Pm:Rg:=(aB VH (aB VG (aB VF (aB VE (aB (aB VD (bG 0 (dH an0 lf))) (aB Ue c!))))))
def sJ:Fun:=bD b! (kp [0,1,4,5,6,7,8,9,10,11,24,25,26,27,53]) Tryz.f134.ntmps [.tmp 4] Pm
theorem ak7(x0 x1:V)(h:Hp):sJ [x0,x1] h=aU b! [.tmp 4] (Pm (ss 1 x1 (ss 0 x0 T.nil)) h):=kR
theorem adE:aG b! aJ 134 sJ:=prX aN [] [(2,[0,1,3,7,15,0,32,96,224,511,1023,2047],gm [0,16,32,51,66,80,96,112,132,146,160,176]),(8,[0,1,3,7,7,31,63,127,7,263,775,1799,3847,7,7,24583,57351,130823,262143,524287],gm [0,16,32,128,144,160,179,194,48,64,80,96,116,208,224,240,260,272,290,304]),(9,[0,0,2,0,0,24,56,0,0,384,896,2046,4094,8191,16383],gm [0,16,32,48,64,80,99,112,128,144,163,176,193,210,224])] (aV QO (aV aGJ (aV agq (aV NY (aV aGK (aV adR bF)))))) Tryz.func134
abbrev agy:Fun:=Ik.auR
theorem aEm:aG b! aJ 224 agy:=Ik.aGq
def aaW:Rg:=λf h=>gtO (ge 0 f) λa=>aA (fO 138 a h) λb c=>gtO (ge 1 (ss 2 b f)) λd=>aA (fO 149 d c) λi j=>a! (ss 5 (K false) (ss 4 .aO (ss 3 i (ss 2 b f)))) j
def aaV:Rg:=λf h=>gtO (ge 3 f) λa=>aA (aC 0 a h) λb c=>aA (aF b c) λd i=>aA (aI .eql .none d (Y U 3) i) λj m=>a! (ss 12 j f) m
def aaU:Rg:=λf h=>gtO (ge 2 f) λa=>aA (aF a h) λb c=>aA (aP b c) λd i=>aA (aC 0 d i) λj m=>aA (aF j m) λn o=>aA (aP n o) λp q=>aA (aC 1 p q) λr s=>aA (aF r s) λt u=>aA (FX [t] u) λv w=>a! (ss 6 v f) w
def aaT:=r1 7 6 λa h=>aZ 2 a h
def aaS:Rg:=λf h=>gtO (ge 2 f) λa=>aA (aF a h) λb c=>aA (aP b c) λd i=>aA (aC 4 d i) λj m=>aA (aF j m) λn o=>ifB n (gtO (ge 7 f) λp=>aA (aI .gtr .none p (Y U 0) o) λq r=>a! (ss 30 q f) r) (a! (ss 30 (K false) f) o)
def anE:Rg:=λf h=>gtO (ge 6 f) λa=>gtO (ge 7 f) λb=>aA (aI .sub .none b (Y U 1) h) λc d=>aA (aX 1 a c d) λi j=>aA (aF i j) λm n=>a! (ss 7 m f) n
def aaR:Rg:=λf h=>gtO (ge 3 f) λa=>aA (aC 1 a h) λb c=>aA (aF b c) λd i=>gtO (ge 7 f) λj=>aA (agy [d,j] i) λm n=>aA (bQ 0 m n) λo p=>aA (bQ 1 m p) λq r=>aA (fE 96 [.aO] r) λs t=>aA (aQ 1 s o t) λ_ u=>a! (ss 9 q (ss 8 s f)) u
def aaQ:=r1 44 9 λa h=>aI .neq .none a (Y U 0) h
def Xb:Rg:=λf h=>gtO (ge 2 f) λa=>aA (aF a (aH 0 h)) λb _=>aA (aP b (aH 0 h)) λc _=>aA (aC 0 c (aH 0 h)) λd _=>aA (aF d (aH 0 h)) λi _=>gtO (ge 2 f) λj=>aA (aF j (aH 0 h)) λm _=>aA (aP m (aH 0 h)) λn _=>aA (aC 1 n (aH 0 h)) λo _=>aA (aF o (aH 0 h)) λp _=>aA (sJ [i,p] (aH 0 h)) λq r=>gtO (ge 8 f) λs=>gtO (ge 2 f) λt=>aA (fC (.func 225) [] [s,t] r) λu _=>aA (jc [q,u] r) λv w=>a! (ss 5 (K true) (ss 4 v f)) w
def abr:Rg:=(aB aaW (aB (aB aaV (aT (.tmp 12) zz a!)) (aB aaU (aB aaT (aB (aB aaS (aT (.tmp 30) anE a!)) (aB aaR (aB (aB aaQ (aT (.tmp 44) zz a!)) (aB Xb c!))))))))
def abS:Fun:=bD b! (kp [0,1,2,3,4,5,6,7,8,9,12,30,44]) Tryz.f135.ntmps [.tmp 4,.tmp 5] abr
theorem axG(x0 x1:V)(h:Hp):abS [x0,x1] h=aU b! [.tmp 4,.tmp 5] (abr (ss 1 x1 (ss 0 x0 T.nil)) h):=kR
theorem aGT:aG b! aJ 135 abS:=prX aN [2,9] [(10,[0,1,3,7,0,16,48,112,255,0,1023,2047,4095],gm [3,16,32,51,67,80,96,115,130,144,162,176,192])] (aV agq (aV aEm (aV adE (aV Dt bF)))) Tryz.func135
abbrev EH:Fun:=Ik.auS
theorem aGV:aG b! aJ 212 EH:=Ik.aGr
def afN:Rg:=λf h=>a! (ss 4 (K false) (ss 3 (Y U 0) (ss 2 .aO f))) h
def afM:=rC 5 .aO
def afL:=rC 6 (Y U 0)
def afK:Rg:=λf h=>gtO (ge 0 f) λa=>aA (aZ 2 a h) λb c=>a! (ss 13 (Y U 0) (ss 12 b (ss 11 a f))) c
def afJ:=r2 14 13 12 λa b h=>aI .lss .none a b h
def afI:Rg:=λf h=>gtO (ge 11 f) λa=>gtO (ge 13 f) λb=>aA (aX 3 a b h) λc d=>aA (bT 3 c d) λi j=>aA (fE 149 [(Y U 0),(H []),.aO] j) λm n=>aA (aQ 3 m i n) λ_ o=>a! (ss 8 m f) o
def afH:Rg:=λf h=>gtO (ge 8 f) λa=>aA (aC 0 a h) λb c=>aA (aF b c) λd i=>aA (aI .eql .none d (Y U 3) i) λj m=>a! (ss 19 j f) m
def afG:Rg:=λf h=>gtO (ge 8 f) λa=>aA (aC 1 a h) λb c=>aA (aF b c) λd i=>aA (EH [d] i) λj m=>aA (bQ 0 j m) λn o=>aA (bQ 1 j o) λp q=>a! (ss 10 p (ss 9 n f)) q
def afF:=r1 27 10 λa h=>oUn .not a h
def adC:Rg:=λf h=>gtO (ge 5 f) λa=>gtO (ge 9 f) λb=>aA (bJ 9 [(H [])] 1 [(0,1,b)] h) λc d=>aA (bK 9 1 16 a c d) λi j=>a! (ss 5 i f) j
def adB:=r1 13 13 λa h=>aI .add .none a (Y U 1) h
def adA:Rg:=λf h=>gtO (ge 5 f) λa=>gtO (ge 6 f) λb=>a! (ss 4 (K true) (ss 3 b (ss 2 a f))) h
def avO:Rg:=(aB afJ (aB (aT (.tmp 14) a! (Out.ex 0)) (aB (bG 1 (aB afI (aB (aB afH (aT (.tmp 19) zz a!)) (aB afG (aB (aB afF (aT (.tmp 27) zz a!)) adC))))) adB)))
def QN:Rg:=(aB afN (aB afM (aB afL (aB (aB afK (bG 0 (dH avO lf))) (aB adA c!)))))
def Q9:Fun:=bD b! (kp [0,2,3,4,5,6,8,9,10,11,12,13,14,19,27]) Tryz.f129.ntmps [.tmp 2,.tmp 3,.tmp 4] QN
theorem arK(x0:V)(h:Hp):Q9 [x0] h=aU b! [.tmp 2,.tmp 3,.tmp 4] (QN (ss 0 x0 T.nil) h):=kR
theorem aBS:aG b! aJ 129 Q9:=prX aN [7,10] [] (aV aGV bF) Tryz.func129
abbrev Xy:Fun:=Ik.auQ
theorem axc:aG b! aJ 233 Xy:=Ik.aGp
def afu:Rg:=λf h=>gtO (ge 0 f) λa=>aA (fO 149 a h) λb c=>a! (ss 5 (K false) (ss 4 (Y U 0) (ss 2 b f))) c
def aft(fr:F)(h:Hp):Out:=
 gtO (ge 2 fr) λa=>aA (aC 0 a h) λb c=>
 aA (aF b c) λd i=>
 aA (aI .neq .none d (Y U 3) i) λj m=>
 ifB j (a! (ss 40 (K true) fr) m) (aA (aC 2 a m) λn o=>
 aA (aF n o) λp q=>
 aA (aZ 2 p q) λr s=>
 aA (aI .neq .none r (Y U 2) s) λt u=>
 ifB t (a! (ss 40 (K true) fr) u) (aA (aC 2 a u) λv w=>
 aA (aF v w) λx y=>
 aA (aX 3 x (Y U 0) y) λz g=>
 aA (aC 0 z g) λk l=>
 aA (aF k l) λB C=>
 aA (aI .neq .none B (Y U 1) C) λE e=>
 ifB E (a! (ss 40 (K true) fr) e) (aA (aC 2 a e) λG I=>
 aA (aF G I) λJ L=>
 aA (aX 3 J (Y U 0) L) λM P=>
 aA (aC 1 M P) λQ S=>
 aA (aF Q S) λW Z=>
 aA (yh [W] Z) λar au=>
 gtO (ge 1 fr) λav=>aA (aI .neq .none ar av au) λaw f=>
 ifB aw (a! (ss 40 (K true) fr) f) (aA (aC 2 a f) λay az=>
 aA (aF ay az) λba bb=>
 aA (aX 3 ba (Y U 1) bb) λbc bd=>
 aA (aC 0 bc bd) λbe bf=>
 aA (aF be bf) λbg bh=>
 aA (aI .neq .none bg (Y U 1) bh) λbi bj=>
 a! (ss 40 bi fr) bj))))
def afs:Rg:=λf h=>gtO (ge 2 f) λa=>aA (aC 2 a h) λb c=>aA (aF b c) λd i=>aA (aX 3 d (Y U 1) i) λj m=>aA (aC 1 j m) λn o=>aA (aF n o) λp q=>aA (Xy [p] q) λr s=>aA (bQ 0 r s) λt u=>aA (bQ 1 r u) λv w=>a! (ss 5 v (ss 4 t f)) w
def abq:Rg:=(aB afu (aB (aB aft (aT (.tmp 40) zz a!)) (aB afs c!)))
def Q7:Fun:=bD b! (kp [0,1,2,4,5,40]) Tryz.f143.ntmps [.tmp 4,.tmp 5] abq
theorem arI(x0 x1:V)(h:Hp):Q7 [x0,x1] h=aU b! [.tmp 4,.tmp 5] (abq (ss 1 x1 (ss 0 x0 T.nil)) h):=kR
theorem aBQ:aG b! aJ 143 Q7:=prX aN [2] [] (aV Zt (aV axc bF)) Tryz.func143
def afE:=rC 4 .aO
def afD:Rg:=λf h=>gtO (ge 0 f) λa=>aA (aP a (aH 0 h)) λb _=>aA (aC 0 b (aH 0 h)) λc _=>aA (aF c (aH 0 h)) λd _=>gtO (ge 0 f) λi=>aA (aP i (aH 0 h)) λj _=>aA (aC 1 j (aH 0 h)) λm _=>aA (aF m (aH 0 h)) λn _=>aA (sJ [d,n] (aH 0 h)) λo p=>a! (ss 5 o f) p
def afC:=rC 6 .aO
def afB:Rg:=λf h=>gtO (ge 1 f) λa=>aA (aZ 2 a h) λb c=>a! (ss 21 (Y U 0) (ss 20 b (ss 19 a f))) c
def afA:=r2 22 21 20 λa b h=>aI .lss .none a b h
def afz:Rg:=λf h=>gtO (ge 19 f) λa=>gtO (ge 21 f) λb=>aA (aX 10 a b h) λc d=>aA (bT 10 c d) λi j=>aA (fE 200 [(Y U 0),(Y U 0),(Y U 0),(Y U 0),(H []),(Y U 0),.aO,.aO,(Y U 0),(Y U 0)] j) λm n=>aA (aQ 10 m i n) λ_ o=>a! (ss 8 m f) o
def afy:Rg:=λf h=>gtO (ge 5 f) λa=>gtO (ge 8 f) λb=>aA (fC (.func 250) [] [b] h) λc d=>aA (jo [a,c] d) λi j=>a! (ss 9 i f) j
def afx:Rg:=λf h=>gtO (ge 6 f) λa=>gtO (ge 5 f) λb=>gtO (ge 9 f) λc=>aA (aX 10 b c h) λd i=>aA (bT 10 d i) λj m=>aA (bJ 200 [(Y U 0),(Y U 0),(Y U 0),(Y U 0),(H []),(Y U 0),.aO,.aO,(Y U 0),(Y U 0)] 1 [(0,10,j)] m) λn o=>aA (bK 200 10 120 a n o) λp q=>a! (ss 6 p f) q
def afw:=r1 21 21 λa h=>aI .add .none a (Y U 1) h
def afv:=rM 4 6
def avN:Rg:=(aB afA (aB (aT (.tmp 22) a! (Out.ex 0)) (aB (bG 1 (aB afz (aB afy afx))) afw)))
def abt:Rg:=(aB afE (aB afD (aB afC (aB (aB afB (bG 0 (dH avN lf))) (aB afv c!)))))
def Q8:Fun:=bD b! (kp [0,1,4,5,6,8,9,19,20,21,22]) Tryz.f151.ntmps [.tmp 4] abt
theorem arJ(x0 x1:V)(h:Hp):Q8 [x0,x1] h=aU b! [.tmp 4] (abt (ss 1 x1 (ss 0 x0 T.nil)) h):=kR
theorem aBR:aG b! aJ 151 Q8:=prX aN [] [(1,[0,1,3,7,0,16,48,112,255,511],gm [0,16,32,51,64,80,96,115,130,144])] (aV adE (aV FU bF)) Tryz.func151
def ah7:Rg:=λf h=>gtO (ge 0 f) λa=>aA (aI .eql (.ptr 3) a .bY h) λb c=>ifB b (a! (ss 23 (K true) f) c) (gtO (ge 2 f) λd=>aA (aI .lss .none d (Y U 1) c) λi j=>ifB i (a! (ss 23 (K true) f) j) (aA (aP a j) λm n=>aA (aC 1 m n) λo p=>aA (aF o p) λq r=>aA (aZ 2 q r) λs t=>aA (aI .gtr .none d s t) λu v=>a! (ss 23 u f) v))
def ah6:Rg:=λf h=>gtO (ge 0 f) λa=>aA (aP a h) λb c=>aA (aC 1 b c) λd i=>aA (aF d i) λj m=>gtO (ge 2 f) λn=>aA (aI .sub .none n (Y U 1) m) λo p=>aA (aX 3 j o p) λq r=>aA (bT 3 q r) λs t=>aA (fE 248 [(Y U 0),(Y U 0),.bY] t) λu v=>aA (aQ 3 u s v) λ_ w=>a! (ss 6 u f) w
def ah5:Rg:=λf h=>gtO (ge 1 f) λa=>gtO (ge 0 f) λb=>aA (aP b h) λc d=>aA (aC 0 c d) λi j=>aA (aF i j) λm n=>aA (uX [a,m] n) λo p=>aA (aZ 2 o p) λq r=>a! (ss 39 (Y U 0) (ss 38 q (ss 37 o f))) r
def ah4:=r2 40 39 38 λa b h=>aI .lss .none a b h
def LP:Rg:=λf h=>gtO (ge 37 f) λa=>gtO (ge 39 f) λb=>aA (aX 9 a b h) λc d=>aA (bT 9 c d) λi j=>aA (fE 250 [(Y U 0),(Y U 0),(Y U 0),(H []),(Y U 0),.aO,.aO,(Y U 0),(Y U 0)] j) λm n=>aA (aQ 9 m i n) λ_ o=>a! (ss 8 m f) o
def LK(fr:F)(h:Hp):Out:=
 gtO (ge 8 fr) λa=>aA (aC 0 a h) λb c=>
 aA (aF b c) λd i=>
 gtO (ge 6 fr) λj=>aA (aC 0 j i) λm n=>
 aA (aF m n) λo p=>
 aA (aI .eql .none d o p) λq r=>
 ifB q (aA (aC 1 a r) λs t=>
 aA (aC 0 s t) λu v=>
 aA (aF u v) λw x=>
 aA (aC 1 j x) λy z=>
 aA (aF y z) λe f=>
 aA (aI .eql .none w e f) λg k=>
 a! (ss 55 g fr) k) (a! (ss 55 (K false) fr) r)
def ah3:Rg:=λf h=>gtO (ge 6 f) λa=>aA (aC 2 a h) λb c=>aA (aF b c) λd i=>gtO (ge 8 f) λj=>aA (aC 1 j i) λm n=>aA (aC 6 m n) λo p=>aA (aF o p) λq r=>aA (mQ [d,q] r) λs t=>a! f t
def ah2:=r1 39 39 λa h=>aI .add .none a (Y U 1) h
def axp:Rg:=(aB ah4 (aB (aT (.tmp 40) a! (Out.ex 0)) (aB (bG 1 (aB LP (aB LK (aT (.tmp 55) ah3 a!)))) ah2)))
def VI:Rg:=(aB (aB ah7 (aT (.tmp 23) c! a!)) (aB ah6 (aB ah5 (bG 0 (dH axp lf)))))
def Oa:Fun:=bD b! (kp [0,1,2,6,8,23,37,38,39,40,55]) Tryz.f153.ntmps [] VI
theorem avR(x0 x1 a:V)(h:Hp):Oa [x0,x1,a] h=aU b! [] (VI (ss 2 a (ss 1 x1 (ss 0 x0 T.nil))) h):=kR
theorem aEe:aG b! aJ 153 Oa:=prX aN [] [] (aV Xt (aV IZ bF)) Tryz.func153
abbrev Bg:Fun:=Ik.aqA
theorem apC:aG b! aJ 251 Bg:=Ik.aDD
def Xh:Rg:=λf h=>gtO (ge 0 f) λa=>aA (fO 149 a h) λb c=>a! (ss 4 (K false) (ss 3 (K false) (ss 2 (Y .u8 0) (ss 1 b f)))) c
def Xg:Rg:=λf h=>gtO (ge 1 f) λa=>aA (aC 1 a h) λb c=>aA (aF b c) λd i=>aA (yh [d] i) λj m=>aA (Bg [j,(H [46,115,105,108,101,110,116])] m) λn o=>aA (bQ 0 n o) λp q=>aA (bQ 1 n q) λr s=>a! (ss 3 r (ss 5 p f)) s
def Xf:Rg:=λf h=>gtO (ge 1 f) λa=>aA (aC 0 a h) λb c=>aA (aF b c) λd i=>aA (aI .neq .none d (Y U 1) i) λj m=>a! (ss 13 j f) m
def Xe:=r1 17 5 λa h=>aI .eql .none a (H [102,108,97,103,115]) h
def Xd:=r1 21 5 λa h=>aI .eql .none a (H [43,102,108,97,103,115]) h
def ai9:=r1 21 5 λa h=>aI .eql .none a (H [45,102,108,97,103,115]) h
def Xc:Rg:=λf h=>gtO (ge 5 f) λa=>aA (kG a (Y U 0) h) λb c=>gtO (ge 3 f) λd=>a! (ss 4 (K true) (ss 3 d (ss 2 b f))) c
def VP:Rg:=(aB Xh (aB Xg (aB (bG 0 (aB Xf (aT (.tmp 13) zz (aB Xe (aT (.tmp 17) zz (aB (aB Xd (aT (.tmp 21) a! ai9)) (aT (.tmp 21) (aB Xc c!) a!))))))) zz)))
def V7:Fun:=bD b! (kp [0,1,2,3,4,5,13,17,21]) Tryz.f154.ntmps [.tmp 2,.tmp 3,.tmp 4] VP
theorem av9(x0:V)(h:Hp):V7 [x0] h=aU b! [.tmp 2,.tmp 3,.tmp 4] (VP (ss 0 x0 T.nil) h):=kR
theorem aEs:aG b! aJ 154 V7:=prX aN [3,5,9] [] (aV Zt (aV apC bF)) Tryz.func154
def aiR:=rC 2 (H [])
def aiQ:=rC 3 .aO
def aiP:=rC 4 (Y U 0)
def aiO:Rg:=λf h=>gtO (ge 0 f) λa=>aA (aZ 2 a h) λb c=>a! (ss 14 (Y U 0) (ss 13 b (ss 12 a f))) c
def aiN:=r2 15 14 13 λa b h=>aI .lss .none a b h
def WX:Rg:=λf h=>gtO (ge 12 f) λa=>gtO (ge 14 f) λb=>aA (aX 1 a b h) λc d=>aA (aF c d) λi j=>a! (ss 6 i f) j
def WW:=r2 20 6 4 λa b h=>aI .leq .none a b h
def WV:=r1 7 3 λa h=>aZ 2 a h
def WU:Rg:=λf h=>gtO (ge 7 f) λa=>aA (aI .gtr .none a (Y U 0) h) λb c=>ifB b (gtO (ge 3 f) λd=>aA (aI .sub .none a (Y U 1) c) λi j=>aA (aX 2 d i j) λm n=>aA (aC 1 m n) λo p=>aA (aF o p) λq r=>gtO (ge 6 f) λs=>aA (aI .sub .none s (Y U 1) r) λt u=>aA (aI .eql .none q t u) λv w=>a! (ss 35 v f) w) (a! (ss 35 (K false) f) c)
def aiM:Rg:=λf h=>gtO (ge 3 f) λa=>gtO (ge 7 f) λb=>aA (aI .sub .none b (Y U 1) h) λc d=>gtO (ge 6 f) λi=>aA (aX 2 a c d) λj m=>aA (aC 1 j m) λn o=>aA (aQ 1 n i o) λ_ p=>a! f p
def afj:Rg:=λf h=>gtO (ge 3 f) λa=>gtO (ge 6 f) λb=>aA (bU [(Y U 0),(Y U 0)] [(0,1,b),(1,1,b)] h) λc d=>aA (bJ 98 [(Y U 0),(Y U 0)] 1 [(0,2,c)] d) λi j=>aA (bK 98 2 16 a i j) λm n=>a! (ss 3 m f) n
def TQ:=rM 4 6
def afi:=r1 14 14 λa h=>aI .add .none a (Y U 1) h
def afh:=rC 8 .aO
def afg:Rg:=λf h=>gtO (ge 3 f) λa=>aA (aZ 2 a h) λb c=>a! (ss 52 (Y U 0) (ss 51 b (ss 50 a f))) c
def aff:=r2 53 52 51 λa b h=>aI .lss .none a b h
def TP:Rg:=λf h=>gtO (ge 50 f) λa=>gtO (ge 52 f) λb=>aA (aX 2 a b h) λc d=>aA (bT 2 c d) λi j=>aA (fE 98 [(Y U 0),(Y U 0)] j) λm n=>aA (aQ 2 m i n) λ_ o=>a! (ss 10 m f) o
def TN:Rg:=λf h=>gtO (ge 10 f) λa=>aA (aC 0 a h) λb c=>aA (aF b c) λd i=>aA (lV [d] i) λj m=>a! (ss 11 j f) m
def TM:Rg:=λf h=>gtO (ge 10 f) λa=>aA (aC 1 a h) λb c=>aA (aF b c) λd i=>aA (aC 0 a i) λj m=>aA (aF j m) λn o=>aA (aI .gtr .none d n o) λp q=>a! (ss 63 p f) q
def afe:Rg:=λf h=>gtO (ge 11 f) λa=>gtO (ge 10 f) λb=>aA (aC 1 b h) λc d=>aA (aF c d) λi j=>aA (lV [i] j) λm n=>aA (aI .add .none (H [58]) m n) λo p=>aA (aI .add .none a o p) λq r=>a! (ss 11 q f) r
def TL:Rg:=λf h=>gtO (ge 8 f) λa=>gtO (ge 11 f) λb=>aA (bJ 9 [(H [])] 1 [(0,1,b)] h) λc d=>aA (bK 9 1 16 a c d) λi j=>a! (ss 8 i f) j
def afd:=r1 52 52 λa h=>aI .add .none a (Y U 1) h
def afc:=r1 2 8 λa h=>abU [a,(H [44])] h
def axq:Rg:=(aB aiN (aB (aT (.tmp 15) a! (Out.ex 0)) (aB (bG 1 (aB WX (aB (aB WW (aT (.tmp 20) (Out.ex 1) a!)) (aB (aB WV (aB WU (aT (.tmp 35) aiM afj))) TQ)))) afi)))
def avM:Rg:=(aB aff (aB (aT (.tmp 53) a! (Out.ex 2)) (aB (bG 3 (aB TP (aB TN (aB (aB TM (aT (.tmp 63) afe a!)) TL)))) afd)))
def VN:Rg:=(aB aiR (aB aiQ (aB aiP (aB (aB aiO (bG 0 (dH axq lf))) (aB afh (aB (aB afg (bG 2 (dH avM lf))) (aB afc c!)))))))
def VX:Fun:=bD b! (kp [0,2,3,4,6,7,8,10,11,12,13,14,15,20,35,50,51,52,53,63]) Tryz.f161.ntmps [.tmp 2] VN
theorem av3(x0:V)(h:Hp):VX [x0] h=aU b! [.tmp 2] (VN (ss 0 x0 T.nil) h):=kR
theorem aEl:aG b! aJ 161 VX:=prX aN [] [] (aV Xu (aV asb bF)) Tryz.func161
def Aq:Rg:=λf h=>gtO (ge 1 f) λa=>aA (fO 138 a h) λb c=>aA (fE 145 [(Y U 0),(H []),(K false),(K false),(K false)] c) λd i=>a! (ss 4 d (ss 3 b f)) i
def Ap:Rg:=λf h=>gtO (ge 3 f) λa=>aA (aF a h) λb c=>aA (aP b c) λd i=>aA (aC 3 d i) λj m=>aA (aF j m) λn o=>a! (ss 5 n f) o
def Am:Rg:=λf h=>gtO (ge 5 f) λa=>aA (aZ 2 a h) λb c=>aA (aI .lss .none b (Y U 3) c) λd i=>a! (ss 27 d f) i
def TY:Rg:=λf h=>aA (abW [] h) λa b=>gtO (ge 4 f) λc=>aA (aQ 5 c a b) λ_ d=>a! f d
def Ak:Rg:=λf h=>gtO (ge 3 f) λa=>aA (aF a (aH 0 h)) λb _=>gtO (ge 5 f) λc=>aA (aX 3 c (Y U 0) (aH 0 h)) λd _=>aA (bT 3 d (aH 0 h)) λi _=>aA (abS [b,i] (aH 0 h)) λj m=>aA (bQ 0 j m) λn _=>aA (bQ 1 j m) λo _=>a! (ss 7 o (ss 6 n f)) m
def Aj:Rg:=λf h=>gtO (ge 5 f) λa=>aA (eU 3 a (some (Y U 1)) none none h) λb c=>a! (ss 5 b f) c
def Ai(fr:F)(h:Hp):Out:=
 zU (OB 3 [(Y U 0)]) λg e=>
 zU (OB 4 [(K false)]) λk f=>
 aA (aQ 1 (e (Hp.next h)) (Y U 0) (Hp.put (Hp.put (aH 2 h) (Hp.next h) (some g)) (Pos.succ (Hp.next h)) (some k))) λ_ a=>
 gtO (ge 5 fr) λb=>aA (aX 3 b (Y U 0) a) λc _=>
 aA (aC 0 c a) λd _=>
 aA (aF d a) λi _=>chk (λh=>aF d h) i (
 aA (aI .eql .none i (Y U 3) a) λj _=>
 aA (aQ 1 (f (Pos.succ (Hp.next h))) j a) λ_ m=>
 a! (ss 9 (f (Pos.succ (Hp.next h))) (ss 8 (e (Hp.next h)) fr)) m) 1 [(aH 2 h)]
def Ah:=r1 44 9 λa h=>aF a h
def IJ:=rC 10 (K false)
def II:Rg:=λf h=>gtO (ge 5 f) λa=>aA (aX 3 a (Y U 0) h) λb c=>aA (bT 3 b c) λd i=>aA (Q7 [d,(H [117,110,99,104,97,110,103,101,100,115,105,110,99,101])] i) λj m=>aA (bQ 0 j m) λn o=>aA (bQ 1 j o) λp q=>gtO (ge 8 f) λr=>aA (aQ 1 r n q) λ_ s=>a! (ss 10 p f) s
def D9:Rg:=λf h=>gtO (ge 7 f) λa=>ifB a (gtO (ge 10 f) λb=>a! (ss 7 b f) h) (a! (ss 7 (K false) f) h)
def D8:Rg:=λf h=>gtO (ge 5 f) λa=>aA (eU 3 a (some (Y U 1)) none none h) λb c=>a! (ss 5 b f) c
def O1:Rg:=λf h=>gtO (ge 7 f) λa=>aA (oUn .not a h) λb c=>ifB b (a! (ss 64 (K true) f) c) (gtO (ge 5 f) λd=>aA (aZ 2 d c) λi j=>aA (aI .lss .none i (Y U 2) j) λm n=>a! (ss 64 m f) n)
def adu:Rg:=λf h=>aA (abW [] h) λa b=>gtO (ge 4 f) λc=>aA (aQ 5 c a b) λ_ d=>a! f d
def O0:Rg:=λf h=>gtO (ge 5 f) λa=>aA (aX 3 a (Y U 0) h) λb c=>aA (bT 3 b c) λd i=>aA (V7 [d] i) λj m=>aA (bQ 0 j m) λn o=>aA (bQ 1 j o) λp q=>aA (bQ 2 j q) λr s=>aA (fE 5 [(Y .u8 0)] s) λt u=>aA (aQ 1 t n u) λ_ v=>a! (ss 7 r (ss 12 p (ss 11 t f))) v
def OZ:Rg:=λf h=>gtO (ge 5 f) λa=>aA (eU 3 a (some (Y U 1)) none none h) λb c=>a! (ss 5 b f) c
def OY:Rg:=λf h=>gtO (ge 5 f) λa=>aA (aZ 2 a h) λb c=>aA (aI .eql .none b (Y U 1) c) λd i=>ifB d (aA (aX 3 a (Y U 0) i) λj m=>aA (aC 0 j m) λn o=>aA (aF n o) λp q=>aA (aI .eql .none p (Y U 3) q) λr s=>a! (ss 85 r f) s) (a! (ss 85 (K false) f) i)
def OX:Rg:=λf h=>gtO (ge 5 f) λa=>aA (aX 3 a (Y U 0) h) λb c=>aA (aC 2 b c) λd i=>aA (aF d i) λj m=>a! (ss 5 j f) m
def OW:Rg:=λf h=>gtO (ge 5 f) λa=>aA (Q9 [a] h) λb c=>aA (bQ 0 b c) λd i=>aA (bQ 1 b i) λj m=>aA (bQ 2 b m) λn o=>aA (fE 26 [.aO] o) λp q=>aA (aQ 1 p d q) λ_ r=>a! (ss 14 j (ss 13 p f)) r
def OV:=rC 16 (.func (.func 155) .nil .nil)
def OU:=r1 96 7 λa h=>oUn .not a h
def OT:=r2 96 5 16 λa b h=>lI [a,b] h
def adt:Rg:=λf h=>aA (abW [] h) λa b=>gtO (ge 4 f) λc=>aA (aQ 5 c a b) λ_ d=>a! f d
def OQ:Rg:=λf h=>gtO (ge 0 f) λa=>aA (aP a h) λb c=>aA (aC 2 b c) λd i=>aA (aF d i) λj m=>a! (ss 103 j f) m
def ads:Rg:=λf h=>aA (asc [] h) λa b=>gtO (ge 4 f) λc=>aA (aQ 5 c a b) λ_ d=>a! f d
def OO:=r1 109 14 λa h=>aI .neq .none a (Y U 0) h
def adr:Rg:=λf h=>gtO (ge 14 f) λa=>aA (XD [a] h) λb c=>gtO (ge 4 f) λd=>aA (aQ 5 d b c) λ_ i=>a! f i
def OM:Rg:=λf h=>aA (fE 36 [.aO] h) λa b=>a! (ss 17 a f) b
def OL:Rg:=λf h=>gtO (ge 6 f) λa=>gtO (ge 9 f) λb=>gtO (ge 8 f) λc=>gtO (ge 17 f) λd=>gtO (ge 3 f) λi=>aA (fC (.func 156) [] [b,c,d,i] h) λj m=>aA (jc [a,j] m) λn o=>a! (ss 6 n f) o
def OJ:Rg:=λf h=>gtO (ge 3 f) λa=>aA (aF a h) λb c=>gtO (ge 6 f) λd=>gtO (ge 11 f) λi=>gtO (ge 13 f) λj=>aA (fC (.func 158) [] [i,j] c) λm n=>aA (Wi [b,d,m] n) λo p=>a! (ss 14 o f) p
def OI:=r1 122 14 λa h=>aI .neq .none a (Y U 0) h
def adq:Rg:=λf h=>gtO (ge 14 f) λa=>aA (XD [a] h) λb c=>gtO (ge 4 f) λd=>aA (aQ 5 d b c) λ_ i=>a! f i
def OH:Rg:=λf h=>gtO (ge 3 f) λa=>aA (aF a h) λb c=>gtO (ge 6 f) λd=>aA (Q8 [b,d] c) λi j=>aA (aZ 2 i j) λm n=>a! (ss 129 (Y U 0) (ss 128 m (ss 127 i f))) n
def adp:=r2 130 129 128 λa b h=>aI .lss .none a b h
def ado:Rg:=λf h=>gtO (ge 127 f) λa=>gtO (ge 129 f) λb=>aA (aX 10 a b h) λc d=>aA (bT 10 c d) λi j=>aA (fE 200 [(Y U 0),(Y U 0),(Y U 0),(Y U 0),(H []),(Y U 0),.aO,.aO,(Y U 0),(Y U 0)] j) λm n=>aA (aQ 10 m i n) λ_ o=>a! (ss 19 m f) o
def adn:=r1 134 12 λa h=>oUn .not a h
def adl:Rg:=λf h=>gtO (ge 0 f) λa=>aA (aP a (aH 0 h)) λb _=>aA (aC 1 b (aH 0 h)) λc _=>aA (aF c (aH 0 h)) λd _=>gtO (ge 3 f) λi=>aA (aF i (aH 0 h)) λj _=>aA (aP j (aH 0 h)) λm _=>aA (aC 1 m (aH 0 h)) λn _=>aA (aF n (aH 0 h)) λo _=>gtO (ge 19 f) λp=>aA (aC 0 p (aH 0 h)) λq _=>aA (aF q (aH 0 h)) λr _=>aA (Oa [d,o,r] (aH 0 h)) λs t=>a! f t
def adk:=r1 129 129 λa h=>aI .add .none a (Y U 1) h
def D7:Rg:=λf h=>gtO (ge 3 f) λa=>aA (aF a h) λb c=>aA (aP b c) λd i=>aA (aC 4 d i) λj m=>aA (aF j m) λn o=>aA (oUn .not n o) λp q=>aA (bU [(Y U 0),(H []),(K false),(K false),(K false)] [(4,1,p)] q) λr s=>aA (fE 145 [(Y U 0),(H []),(K false),(K false),(K false)] s) λt u=>aA (aQ 5 t r u) λ_ v=>a! (ss 20 t f) v
def D6:Rg:=λf h=>gtO (ge 17 f) λa=>aA (aF a h) λb c=>aA (aZ 2 b c) λd i=>aA (aI .gtr .none d (Y U 0) i) λj m=>a! (ss 163 j f) m
def OG:Rg:=λf h=>gtO (ge 17 f) λa=>aA (aF a h) λb c=>aA (VX [b] c) λd i=>aA (aI .add .none (H [77,79,68,73,70,73,69,68,32]) d i) λj m=>gtO (ge 20 f) λn=>aA (aC 1 n m) λo p=>aA (aQ 1 o j p) λ_ q=>a! f q
def D5:Rg:=λf h=>gtO (ge 20 f) λa=>aA (bT 5 a h) λb c=>gtO (ge 4 f) λd=>aA (aQ 5 d b c) λ_ i=>a! f i
def adK:Rg:=(aB adp (aB (aT (.tmp 130) a! (Out.ex 1)) (aB (bG 2 (aB ado (aB (aB adn (aT (.tmp 134) zz a!)) adl))) adk)))
def abp:Rg:=(aB Aq (aB Ap (aB (aB Am (aT (.tmp 27) (aB TY c!) a!)) (aB Ak (aB Aj (aB Ai (aB (aB Ah (aT (.tmp 44) (aB IJ (aB II (aB D9 D8))) a!)) (aB (aB O1 (aT (.tmp 64) (aB adu c!) a!)) (aB O0 (aB OZ (aB (aB OY (aT (.tmp 85) OX a!)) (aB OW (aB OV (aB (bG 0 (aB (aB OU (aT (.tmp 96) a! OT)) (aT (.tmp 96) (aB adt c!) (aB OQ (aT (.tmp 103) (aB ads c!) (aB OO (aT (.tmp 109) (aB adr c!) a!))))))) (aB OM (aB OL (aB OJ (aB (aB OI (aT (.tmp 122) (aB adq c!) a!)) (aB (aB OH (bG 1 (dH adK lf))) (aB D7 (aB (aB D6 (aT (.tmp 163) OG a!)) (aB D5 c!))))))))))))))))))))))
def Q5:Fun:=bD b! (kp [0,1,3,4,5,6,7,8,9,10,11,12,13,14,16,17,19,20,27,44,64,85,96,103,109,122,127,128,129,130,134,163]) Tryz.f73.ntmps [.cell 4 145] abp
theorem arH(x0 x1:V)(h:Hp):Q5 [x0,x1] h=aU b! [.cell 4 145] (abp (ss 1 x1 (ss 0 x0 T.nil)) h):=kR
theorem aBP:aG b! aJ 73 Q5:=prX aN [36] [(4,[0,0,2,6,15,31,63,63,127,511],gm [3,16,32,51,66,80,96,112,128,144]),(6,[0,1,3,7,15,0,0,96,255],gm [81,97,114,0,16,32,52,64,130]),(37,[0,1,3,7,0,16,48,112,0,256,1023],gm [0,16,32,51,67,80,96,115,128,147,162])] (aV aHo (aV aGT (aV aBQ (aV aEs (aV aBS (aV Zr (aV aHm (aV axn (aV Dt (aV aEv (aV aBR (aV aEe (aV aEl bF))))))))))))) Tryz.func73
def aEd:FuncId->Option Fun:=rF [(93,DJ),(95,yh),(136,asc),(60,asf),(61,V6),(73,Q5)]
def KW:Rg:=λf h=>aA (fE 145 [(Y U 0),(H []),(K false),(K false),(K false)] h) λa b=>a! (ss 6 a f) b
def KU:=r1 11 2 λa h=>aI .eql .none a (H [117,105,100]) h
def Um:Rg:=λf h=>gtO (ge 1 f) λa=>aA (aP a h) λb c=>aA (aC 3 b c) λd i=>aA (aF d i) λj m=>aA (DJ [j,(Y U 0)] m) λn o=>aA (oUn .not n o) λp q=>a! (ss 17 p f) q
def abb:Rg:=λf h=>aA (bU [(Y U 0),(H []),(K false),(K false),(K false)] [(0,1,(Y U 2)),(1,1,(H [99,111,109,109,97,110,100]))] h) λa b=>gtO (ge 6 f) λc=>aA (aQ 5 c a b) λ_ d=>a! f d
def Ul:Rg:=λf h=>gtO (ge 1 f) λa=>aA (aP a h) λb c=>aA (aC 3 b c) λd i=>aA (aF d i) λj m=>aA (aX 3 j (Y U 0) m) λn o=>aA (aC 1 n o) λp q=>aA (aF p q) λr s=>aA (yh [r] s) λt u=>a! (ss 2 t f) u
def Uk:Rg:=λf h=>gtO (ge 1 f) λa=>aA (aP a h) λb c=>aA (aC 3 b c) λd i=>aA (aF d i) λj m=>aA (eU 3 j (some (Y U 1)) none none m) λn o=>aA (aP a o) λp q=>aA (aC 3 p q) λr s=>aA (aQ 1 r n s) λ_ t=>aA (aP a t) λu v=>aA (aC 4 u v) λw x=>aA (aQ 1 w (K true) x) λ_ y=>a! f y
def aa9:Rg:=λf h=>gtO (ge 0 f) λa=>aA (aP a h) λb c=>aA (aC 4 b c) λd i=>aA (aF d i) λj m=>gtO (ge 2 f) λn=>aA (aeo .string true (.agg (.cons .iH (.cons (Y U 0) (.cons (K false) .nil)))) j n m) λo p=>aA (bQ 0 o p) λq r=>aA (bQ 1 o r) λs t=>aA (fE 122 [.iH,(Y U 0),(K false)] t) λu v=>aA (aQ 3 u q v) λ_ w=>a! (ss 8 s (ss 7 u f)) w
def aa8:Rg:=λf h=>gtO (ge 8 f) λa=>aA (oUn .not a h) λb c=>ifB b (a! (ss 59 (K true) f) c) (gtO (ge 1 f) λd=>aA (aP d c) λi j=>aA (aC 4 i j) λm n=>aA (aF m n) λo p=>ifB o (gtO (ge 7 f) λq=>aA (aC 2 q p) λr s=>aA (aF r s) λt u=>aA (oUn .not t u) λv w=>a! (ss 59 v f) w) (a! (ss 59 (K false) f) p))
def avu:Rg:=λf h=>aA (bU [(Y U 0),(H []),(K false),(K false),(K false)] [(0,1,(Y U 2)),(1,1,(H [99,111,109,109,97,110,100]))] h) λa b=>gtO (ge 6 f) λc=>aA (aQ 5 c a b) λ_ d=>a! f d
def aa7:=rC 9 (K true)
def FT:Rg:=λf h=>gtO (ge 7 f) λa=>aA (aC 1 a h) λb c=>aA (aF b c) λd i=>a! (ss 62 d f) i
def FQ:=r1 63 62 λa h=>aI .eql .none a (Y U 1) h
def af4:Rg:=λf h=>gtO (ge 0 f) λa=>aA (aP a h) λb c=>aA (aC 0 b c) λd i=>aA (aF d i) λj m=>aA (oUn .not j m) λn o=>a! (ss 9 n f) o
def FP:=r1 70 62 λa h=>aI .eql .none a (Y U 2) h
def af2:Rg:=λf h=>gtO (ge 0 f) λa=>aA (aP a h) λb c=>aA (aC 0 b c) λd i=>aA (aF d i) λj m=>a! (ss 9 j f) m
def FO:=r1 76 62 λa h=>aI .eql .none a (Y U 3) h
def af0:Rg:=λf h=>gtO (ge 0 f) λa=>aA (aP a h) λb c=>aA (aC 1 b c) λd i=>aA (aF d i) λj m=>aA (aI .neq (.ptr 3) j .bY m) λn o=>a! (ss 9 n f) o
def FN:=r1 84 9 λa h=>oUn .not a h
def aqZ:Rg:=λf h=>aA (asc [] h) λa b=>gtO (ge 6 f) λc=>aA (aQ 5 c a b) λ_ d=>a! f d
def FM:Rg:=λf h=>gtO (ge 7 f) λa=>aA (aC 0 a h) λb c=>aA (aF b c) λd i=>gtO (ge 1 f) λj=>aA (dI aEd d [j] i) λm n=>gtO (ge 6 f) λo=>aA (aQ 5 o m n) λ_ p=>a! f p
def avA:Rg:=(aB KW (aB (aB KU (aT (.tmp 11) (aB (aB Um (aT (.tmp 17) (aB abb c!) a!)) (aB Ul Uk)) a!)) (aB aa9 (aB (aB aa8 (aT (.tmp 59) (aB avu c!) a!)) (aB aa7 (aB (aB FT (bG 0 (aB FQ (aT (.tmp 63) af4 (aB FP (aT (.tmp 70) af2 (aB FO (aT (.tmp 76) af0 a!)))))))) (aB (aB FN (aT (.tmp 84) (aB aqZ c!) a!)) (aB FM c!))))))))
def ZC:Fun:=bD b! (kp [0,1,2,6,7,8,9,11,17,59,62,63,70,76,84]) Tryz.f94.ntmps [.cell 6 145] avA
theorem arb(x0 x1 a:V)(h:Hp):ZC [x0,x1,a] h=aU b! [.cell 6 145] (avA (ss 2 a (ss 1 x1 (ss 0 x0 T.nil))) h):=kR
theorem aNs:aG b! aJ 94 ZC:=prX aN [] [] (aV aEz (aV Zt (aV aHm (aV aOk (aV aEr (aV aBP bF)))))) Tryz.func94
def YI:Rg:=λf h=>gtO (ge 0 f) λa=>aA (lV [a] h) λb c=>aA (aI .add .none (H [42,32]) b c) λd i=>aA (aI .add .none d (H [32]) i) λj m=>gtO (ge 1 f) λn=>aA (abU [n,(H [32])] m) λo p=>aA (aI .add .none j o p) λq r=>aA (aI .add .none q (H [13,10]) r) λs t=>gtO (ge 2 f) λu=>aA (yg [u,s] t) λv w=>a! f w
def Uo:Rg:=YI
def Jf:Fun:=bD b! (kp [0,1,2]) Tryz.f174.ntmps [] Uo
theorem an3(x0 x1 a:V)(h:Hp):Jf [x0,x1,a] h=aU b! [] (Uo (ss 2 a (ss 1 x1 (ss 0 x0 T.nil))) h):=kR
theorem avE:aG b! aJ 174 Jf:=prX aN [] [] (aV Xu (aV asb (aV anW bF))) Tryz.func174
def KG:Rg:=λf h=>gtO (ge 0 f) λa=>aA (fO 248 a h) λb c=>aA (fE 250 [(Y U 0),(Y U 0),(Y U 0),(H []),(Y U 0),.aO,.aO,(Y U 0),(Y U 0)] c) λd i=>a! (ss 4 (K false) (ss 3 d (ss 2 b f))) i
def KF:Rg:=λf h=>gtO (ge 1 f) λa=>aA (aF a h) λb c=>gtO (ge 2 f) λd=>aA (fC (.func 178) [] [d] c) λi j=>aA (nO [b,i] j) λm n=>a! (ss 5 m f) n
def KE:=r1 10 5 λa h=>aI .lss .none a (Y U 0) h
def YH:Rg:=λf h=>aA (bU [(Y U 0),(Y U 0),(Y U 0),(H []),(Y U 0),.aO,.aO,(Y U 0),(Y U 0)] [] h) λa b=>gtO (ge 3 f) λc=>aA (aQ 9 c a b) λ_ d=>a! (ss 4 (K false) f) d
def YG:Rg:=λf h=>gtO (ge 1 f) λa=>aA (aF a h) λb c=>gtO (ge 5 f) λd=>aA (aX 9 b d c) λi j=>aA (bT 9 i j) λm n=>gtO (ge 3 f) λo=>aA (aQ 9 o m n) λ_ p=>a! (ss 4 (K true) f) p
def IQ:Rg:=(aB KG (aB KF (aB (aB KE (aT (.tmp 10) (aB YH c!) a!)) (aB YG c!))))
def Je:Fun:=bD b! (kp [0,1,2,3,4,5,10]) Tryz.f176.ntmps [.cell 3 250,.tmp 4] IQ
theorem an2(x0 x1:V)(h:Hp):Je [x0,x1] h=aU b! [.cell 3 250,.tmp 4] (IQ (ss 1 x1 (ss 0 x0 T.nil)) h):=kR
theorem avD:aG b! aJ 176 Je:=prX aN [] [] (aV adO bF) Tryz.func176
def Zq:FuncId->Option Fun:=rF [(175,uX),(179,lH),(44,wH),(99,Jm),(174,Jf),(176,Je)]
def akK:=rC 6 (H [])
def akJ:=r1 23 0 λa h=>aI .eql (.ptr 3) a .bY h
def avl:=rC 6 (H [])
def avk:Rg:=λf h=>aA (fE 141 [.bY,.aO] h) λa b=>a! (ss 7 a f) b
def avj:Rg:=λf h=>gtO (ge 7 f) λa=>aA (fC (.func 174) [] [a] h) λb c=>a! (ss 8 b f) c
def avi:Rg:=λf h=>gtO (ge 1 f) λa=>gtO (ge 0 f) λb=>aA (aP b h) λc d=>aA (aC 0 c d) λi j=>aA (aF i j) λm n=>aA (uX [a,m] n) λo p=>aA (fE 242 [.aO] p) λq r=>aA (aQ 1 q o r) λ_ s=>a! (ss 9 q f) s
def avh:Rg:=λf h=>gtO (ge 9 f) λa=>aA (fC (.func 176) [] [a] h) λb c=>a! (ss 10 b f) c
def avg:=rC 11 (Y U 0)
def Ui:Rg:=λf h=>gtO (ge 2 f) λa=>ifB a (gtO (ge 11 f) λb=>gtO (ge 0 f) λc=>aA (aP c h) λd i=>aA (aC 1 d i) λj m=>aA (aF j m) λn o=>aA (aZ 2 n o) λp q=>aA (aI .lss .none b p q) λr s=>a! (ss 41 r f) s) (a! (ss 41 (K false) f) h)
def akI(fr:F)(h:Hp):Out:=
 gtO (ge 10 fr) λa=>gtO (ge 0 fr) λb=>aA (aP b h) λc d=>
 aA (aC 1 c d) λi j=>
 aA (aF i j) λm n=>
 gtO (ge 11 fr) λo=>aA (aX 3 m o n) λp q=>
 aA (bT 3 p q) λr s=>
 aA (dI Zq a [r] s) λt u=>
 aA (bQ 0 t u) λv w=>
 aA (bQ 1 t w) λx y=>
 aA (fE 250 [(Y U 0),(Y U 0),(Y U 0),(H []),(Y U 0),.aO,.aO,(Y U 0),(Y U 0)] y) λz e=>
 aA (aQ 9 z v e) λ_ f=>
 a! (ss 13 x fr) f
def afZ:=rM 54 13
def aqX:=r1 11 11 λa h=>aI .add .none a (Y U 1) h
def aqW:Rg:=λf h=>gtO (ge 8 f) λa=>gtO (ge 11 f) λb=>aA (aI .add .none b (Y U 1) h) λc d=>aA (bJ 9 [(H [])] 1 [(0,1,(H [69,88,80,85,78,71,69]))] d) λi j=>aA (dI Zq a [c,i] j) λm n=>a! f n
def aqV:Rg:=λf h=>gtO (ge 0 f) λa=>aA (aP a h) λb c=>aA (aC 1 b c) λd i=>aA (aF d i) λj m=>gtO (ge 11 f) λn=>aA (aI .add .none n (Y U 1) m) λo p=>aA (lH [j,n,o] p) λq r=>aA (aP a r) λs t=>aA (aC 1 s t) λu v=>aA (aQ 1 u q v) λ_ w=>a! f w
def aqU:Rg:=λf h=>gtO (ge 0 f) λa=>aA (aP a h) λb c=>aA (aC 1 b c) λd i=>aA (aF d i) λj m=>aA (aZ 2 j m) λn o=>a! (ss 78 (Y U 0) (ss 77 n (ss 76 j f))) o
def aqT:=r2 79 78 77 λa b h=>aI .lss .none a b h
def afY:Rg:=λf h=>gtO (ge 78 f) λa=>gtO (ge 76 f) λb=>aA (aX 3 b a h) λc d=>aA (bT 3 c d) λi j=>aA (fE 248 [(Y U 0),(Y U 0),.bY] j) λm n=>aA (aQ 3 m i n) λ_ o=>a! (ss 14 a (ss 15 m f)) o
def afX:Rg:=λf h=>gtO (ge 10 f) λa=>gtO (ge 15 f) λb=>aA (bT 3 b h) λc d=>aA (dI Zq a [c] d) λi j=>aA (bQ 0 i j) λm n=>aA (bQ 1 i n) λo p=>aA (fE 250 [(Y U 0),(Y U 0),(Y U 0),(H []),(Y U 0),.aO,.aO,(Y U 0),(Y U 0)] p) λq r=>aA (aQ 9 q m r) λ_ s=>a! (ss 17 o (ss 16 q f)) s
def afW:Rg:=λf h=>gtO (ge 17 f) λa=>ifB a (gtO (ge 15 f) λb=>aA (aC 2 b (aH 0 h)) λc _=>aA (aF c (aH 0 h)) λd _=>aA (wH [d] (aH 0 h)) λi j=>gtO (ge 16 f) λm=>aA (aC 1 m j) λn _=>aA (aC 6 n j) λo _=>aA (aF o j) λp _=>chk (λh=>aF o h) p ( aA (aI .gtr .none p i j) λq _=>a! (ss 98 q f) j) 1 [(aH 0 h)]) (a! (ss 98 (K false) f) (aH 0 h))
def aqS:=r1 78 78 λa h=>aI .add .none a (Y U 1) h
def aqR:Rg:=λf h=>gtO (ge 0 f) λa=>aA (aP a (aH 0 h)) λb _=>aA (aC 2 b (aH 0 h)) λc _=>aA (aF c (aH 0 h)) λd _=>gtO (ge 0 f) λi=>aA (aP i (aH 0 h)) λj _=>aA (aC 1 j (aH 0 h)) λm _=>aA (aF m (aH 0 h)) λn _=>aA (aZ 2 n (aH 0 h)) λo _=>a! (ss 19 o (ss 18 d f)) (aH 0 h)
def aqQ:Rg:=λf h=>gtO (ge 9 f) λa=>aA (aF a h) λb c=>aA (aZ 2 b c) λd i=>a! (ss 135 (Y U 0) (ss 134 d (ss 133 b f))) i
def aqP:=r2 136 135 134 λa b h=>aI .lss .none a b h
def aqO:Rg:=λf h=>gtO (ge 133 f) λa=>gtO (ge 135 f) λb=>aA (aX 9 a b h) λc d=>aA (bT 9 c d) λi j=>aA (fE 250 [(Y U 0),(Y U 0),(Y U 0),(H []),(Y U 0),.aO,.aO,(Y U 0),(Y U 0)] j) λm n=>aA (aQ 9 m i n) λ_ o=>a! (ss 21 m f) o
def aqN:Rg:=λf h=>gtO (ge 21 f) λa=>aA (aC 0 a h) λb c=>aA (aF b c) λd i=>gtO (ge 18 f) λj=>aA (aI .gtr .none d j i) λm n=>a! (ss 142 m f) n
def aqM:=r1 135 135 λa h=>aI .add .none a (Y U 1) h
def afV:Rg:=λf h=>gtO (ge 0 f) λa=>aA (aP a h) λb c=>aA (aC 1 b c) λd i=>aA (aF d i) λj m=>aA (aZ 2 j m) λn o=>gtO (ge 19 f) λp=>aA (aI .gtr .none n p o) λq r=>a! (ss 153 q f) r
def afU:=r1 6 7 λa h=>Jm [a] h
def Uz:Rg:=(aB (aB Ui (aT (.tmp 41) a! (Out.ex 0))) (bG 1 (aB (aB akI (aB afZ (aT (.tmp 54) (aB aqX (Out.ex 1)) a!))) (aB aqW aqV))))
def aEB:Rg:=(aB aqT (aB (aT (.tmp 79) a! (Out.ex 2)) (aB (bG 3 (aB afY (aB afX (aB afW (aT (.tmp 98) zz a!))))) aqS)))
def aEA:Rg:=(aB aqP (aB (aT (.tmp 136) a! (Out.ex 4)) (aB (bG 5 (aB aqO (aB aqN (aT (.tmp 142) zz a!)))) aqM)))
def agp:Rg:=(aB akK (aB (aB akJ (aT (.tmp 23) (aB avl c!) a!)) (aB avk (aB avj (aB avi (aB avh (aB (aB avg (bG 0 (dH Uz lf))) (aB (aB aqU (bG 2 (dH aEB lf))) (aB aqR (aB (aB aqQ (bG 4 (dH aEA lf))) (aB (aB afV (aT (.tmp 153) zz a!)) (aB afU c!))))))))))))
def ZB:Fun:=bD b! (kp [0,1,2,6,7,8,9,10,11,13,14,15,16,17,18,19,21,23,41,54,76,77,78,79,98,133,134,135,136,142,153]) Tryz.f97.ntmps [.tmp 6] agp
theorem ara(x0 x1 a:V)(h:Hp):ZB [x0,x1,a] h=aU b! [.tmp 6] (agp (ss 2 a (ss 1 x1 (ss 0 x0 T.nil))) h):=kR
theorem aNr:aG b! aJ 97 ZB:=prX aN [19,20,27,30] [(18,[0,1,3,7,15,3,35,99,255,511],gm [0,16,80,99,114,32,48,68,128,144]),(22,[0,1,3,7,0,16,48,112,240,15,1023],gm [0,16,32,51,64,80,96,115,128,144,160])] (aV Xt (aV agv (aV VS (aV avL (aV avE (aV avD bF)))))) Tryz.func97
def RF:Rg:=λf h=>gtO (ge 3 f) λa=>aA (fO 94 a h) λb c=>a! (ss 9 (K false) (ss 8 (H []) (ss 7 b f))) c
def RD:Rg:=λf h=>gtO (ge 0 f) λa=>aA (aI .eql (.ptr 5) a .bY h) λb c=>ifB b (a! (ss 13 (K true) f) c) (gtO (ge 1 f) λd=>aA (aI .eql (.ptr 16) d .bY c) λi j=>a! (ss 13 i f) j)
def apv:Rg:=λf h=>a! (ss 9 (K false) (ss 8 (H []) f)) h
def Rz:Rg:=λf h=>gtO (ge 7 f) λa=>aA (aC 0 a h) λb c=>aA (aF b c) λd i=>aA (aI .eql .none d (Y U 2) i) λj m=>a! (ss 20 j f) m
def apu:Rg:=λf h=>a! (ss 9 (K true) (ss 8 (H [43,32,103,111,32,111,110,13,10]) f)) h
def Ry(fr:F)(h:Hp):Out:=
 gtO (ge 7 fr) λa=>aA (aC 0 a h) λb c=>
 aA (aF b c) λd i=>
 aA (aI .neq .none d (Y U 1) i) λj m=>
 ifB j (a! (ss 24 (K true) fr) m) (aA (aC 1 a m) λn o=>
 aA (aF n o) λp q=>
 aA (DJ [p,(Y U 0)] q) λr s=>
 aA (oUn .not r s) λt u=>
 ifB t (a! (ss 24 (K true) fr) u) (aA (aC 1 a u) λv w=>
 aA (aF v w) λx y=>
 aA (DJ [x,(Y U 1)] y) λz e=>
 aA (oUn .not z e) λf g=>
 a! (ss 24 f fr) g))
def apt:Rg:=λf h=>a! (ss 9 (K true) (ss 8 (H [42,32,66,65,68,32,108,105,110,101,13,10]) f)) h
def Rx:Rg:=λf h=>gtO (ge 0 f) λa=>aA (aP a h) λb c=>aA (aC 3 b c) λd i=>aA (ZE [d,(Y U 1)] i) λj m=>a! f m
def Rw:Rg:=λf h=>gtO (ge 0 f) λa=>gtO (ge 1 f) λb=>gtO (ge 2 f) λc=>gtO (ge 7 f) λd=>aA (aC 1 d h) λi j=>aA (aF i j) λm n=>aA (eU 3 m (some (Y U 2)) none none n) λo p=>aA (bU [.bY,.bY,(Y U 0),.aO,(K false),.bY,.aO] [(0,1,a),(1,1,b),(2,1,c),(3,1,o)] p) λq r=>aA (fO 143 q r) λs t=>a! (ss 10 s f) t
def Rt:Rg:=λf h=>gtO (ge 0 f) λa=>gtO (ge 10 f) λb=>gtO (ge 7 f) λc=>aA (aC 1 c h) λd i=>aA (aF d i) λj m=>aA (aX 3 j (Y U 1) m) λn o=>aA (aC 1 n o) λp q=>aA (aF p q) λr s=>aA (yh [r] s) λt u=>aA (ZC [a,b,t] u) λv w=>aA (fE 145 [(Y U 0),(H []),(K false),(K false),(K false)] w) λx y=>aA (aQ 5 x v y) λ_ z=>a! (ss 11 x f) z
def KT:Rg:=λf h=>gtO (ge 7 f) λa=>aA (aC 1 a h) λb c=>aA (aF b c) λd i=>aA (aX 3 d (Y U 0) i) λj m=>aA (aC 1 j m) λn o=>aA (aF n o) λp q=>a! (ss 12 p f) q
def KR:Rg:=λf h=>gtO (ge 11 f) λa=>aA (aC 0 a h) λb c=>aA (aF b c) λd i=>aA (aI .eql .none d (Y U 1) i) λj m=>a! (ss 66 j f) m
def aa0:Rg:=λf h=>gtO (ge 12 f) λa=>aA (aI .add .none a (H [32,78,79,32]) h) λb c=>gtO (ge 11 f) λd=>aA (aC 1 d c) λi j=>aA (aF i j) λm n=>aA (aI .add .none b m n) λo p=>aA (aI .add .none o (H [13,10]) p) λq r=>a! (ss 9 (K true) (ss 8 q f)) r
def Uh:Rg:=λf h=>gtO (ge 11 f) λa=>aA (aC 0 a h) λb c=>aA (aF b c) λd i=>aA (aI .eql .none d (Y U 2) i) λj m=>a! (ss 76 j f) m
def akB:Rg:=λf h=>gtO (ge 12 f) λa=>aA (aI .add .none a (H [32,66,65,68,32]) h) λb c=>gtO (ge 11 f) λd=>aA (aC 1 d c) λi j=>aA (aF i j) λm n=>aA (aI .add .none b m n) λo p=>aA (aI .add .none o (H [13,10]) p) λq r=>a! (ss 9 (K true) (ss 8 q f)) r
def Ug:Rg:=λf h=>gtO (ge 11 f) λa=>aA (aC 3 a h) λb c=>aA (aF b c) λd i=>aA (oUn .not d i) λj m=>a! (ss 88 j f) m
def aaZ:Rg:=λf h=>gtO (ge 0 f) λa=>aA (aP a (aH 0 h)) λb _=>aA (aC 1 b (aH 0 h)) λc _=>aA (aF c (aH 0 h)) λd _=>gtO (ge 1 f) λi=>gtO (ge 11 f) λj=>aA (aC 4 j (aH 0 h)) λm _=>aA (aF m (aH 0 h)) λn _=>aA (oUn .not n (aH 0 h)) λo _=>aA (ZB [d,i,o] (aH 0 h)) λp q=>gtO (ge 10 f) λr=>aA (aP r q) λs _=>aA (aC 5 s q) λt _=>aA (yg [t,p] q) λu v=>a! f v
def aaY:Rg:=λf h=>gtO (ge 11 f) λa=>aA (aC 1 a h) λb c=>aA (aF b c) λd i=>aA (aI .neq .none d (H []) i) λj m=>a! (ss 104 j f) m
def akA:Rg:=λf h=>gtO (ge 10 f) λa=>gtO (ge 12 f) λb=>gtO (ge 11 f) λc=>aA (aC 1 c h) λd i=>aA (aF d i) λj m=>aA (aI .add .none (H [91]) j m) λn o=>aA (aI .add .none n (H [93]) o) λp q=>aA (bJ 9 [(H []),(H []),(H []),(H [])] 4 [(0,1,b),(1,1,(H [79,75])),(2,1,p),(3,1,(H [100,111,110,101]))] q) λr s=>aA (zC [a,r] s) λt u=>a! f u
def akz:Rg:=λf h=>gtO (ge 10 f) λa=>gtO (ge 12 f) λb=>aA (bJ 9 [(H []),(H [])] 2 [(0,1,b),(1,1,(H [79,75,32,100,111,110,101]))] h) λc d=>aA (zC [a,c] d) λi j=>a! f j
def aaX:Rg:=λf h=>gtO (ge 10 f) λa=>aA (aP a (aH 0 h)) λb _=>aA (aC 5 b (aH 0 h)) λc _=>aA (Jm [c] (aH 0 h)) λd i=>gtO (ge 11 f) λj=>aA (aC 2 j i) λm _=>aA (aF m i) λn _=>chk (λh=>aF m h) n ( aA (oUn .not n i) λo _=>a! (ss 9 o (ss 8 d f)) i) 1 [(aH 0 h)]
def aBJ:Rg:=(aB RF (aB (bG 0 (aB RD (aT (.tmp 13) (aB apv c!) (aB Rz (aT (.tmp 20) (aB apu c!) (aB Ry (aT (.tmp 24) (aB apt c!) a!))))))) (aB Rx (aB Rw (aB Rt (aB KT (aB (bG 1 (aB KR (aT (.tmp 66) (aB aa0 c!) (aB Uh (aT (.tmp 76) (aB akB c!) a!))))) (aB (aB Ug (aT (.tmp 88) aaZ a!)) (aB (aB aaY (aT (.tmp 104) akA akz)) (aB aaX c!))))))))))
def ahn:Fun:=bD b! (kp [0,1,2,3,7,8,9,10,11,12,13,20,24,66,76,88,104]) Tryz.f42.ntmps [.tmp 8,.tmp 9] aBJ
theorem aG2(x0 x1 a b:V)(h:Hp):ahn [x0,x1,a,b] h=aU b! [.tmp 8,.tmp 9] (aBJ (ss 3 b (ss 2 a (ss 1 x1 (ss 0 x0 T.nil)))) h):=kR
theorem aOj:aG b! aJ 42 ahn:=prX aN [] [(16,[0,1,3,0,8,24,56,0,0,256,768,2040,4095],gm [48,64,80,99,112,128,147,160,178,0,16,32,194]),(20,[0,1,3,7,0,16,48,15,255],gm [0,16,32,50,64,84,96,112,128])] (aV aEz (aV aEy (aV Zt (aV aNs (aV aNr (aV anW (aV aBV (aV avL bF)))))))) Tryz.func42
abbrev uY:Fun:=Ik.azF
theorem ajG:aG b! aJ 14 uY:=Ik.aKZ
abbrev UB:Fun:=Ik.auW
theorem avH:aG b! aJ 104 UB:=Ik.aGu
def ajE:FuncId->Option Fun:=rF [(104,UB)]
def acP:=rC 4 (Y U 0)
def acO:=rC 5 (.func (.func 104) .nil .nil)
def acN:Rg:=λf h=>gtO (ge 5 f) λa=>gtO (ge 1 f) λb=>aA (dI ajE a [b,(H [105,110,45,114,101,112,108,121,45,116,111])] h) λc d=>a! (ss 6 c f) d
def acM:=r1 13 6 λa h=>aI .eql .none a (H []) h
def acL:=rC 4 (Y U 0)
def aLg:Rg:=zz
def Xm:Rg:=(aB acP (aB acO (aB acN (aB (aB acM (aT (.tmp 13) (aB acL c!) a!)) zz))))
def Md:Fun:=bD b! (kp [0,1,4,5,6,8,13,17,18,19,20,28]) Tryz.f48.ntmps [.tmp 4] Xm
theorem apL(x0 x1:V)(h:Hp):Md [x0,x1] h=aU b! [.tmp 4] (Xm (ss 1 x1 (ss 0 x0 T.nil)) h):=kR
theorem axf:aG b! aJ 48 Md:=prX aN [5,6,7,8,9,10,11] [] (aV avH bF) Tryz.func48
def ac3:Rg:=λf h=>a! (ss 11 (Y U 0) (ss 10 (Y U 0) f)) h
def ac2:=r1 22 0 λa h=>aI .eql (.ptr 16) a .bY h
def ac1:Rg:=λf h=>gtO (ge 1 f) λa=>aA (aZ 2 a h) λb c=>aA (aI .eql .none b (Y U 0) c) λd i=>ifB d (a! (ss 33 (K true) f) i) (gtO (ge 3 f) λj=>aA (aI .lss .none j (Y U 0) i) λm n=>ifB m (a! (ss 33 (K true) f) n) (aA (aI .gtr .none j (Y U 253402300799) n) λo p=>a! (ss 33 o f) p))
def ac0:Rg:=λf h=>gtO (ge 2 f) λa=>aA (Ot [a] h) λb c=>aA (bQ 0 b c) λd i=>aA (bQ 1 b i) λj m=>a! (ss 13 j (ss 12 d f)) m
def acZ:=r1 40 13 λa h=>aI .neq .none a (Y U 0) h
def acY:Rg:=λf h=>gtO (ge 0 f) λa=>gtO (ge 1 f) λb=>aA (Mc [a,b] h) λc d=>aA (bQ 0 c d) λi j=>aA (bQ 1 c j) λm n=>a! (ss 15 m (ss 14 i f)) n
def acX:=r1 48 15 λa h=>oUn .not a h
def Zf:Rg:=λf h=>gtO (ge 0 f) λa=>aA (aP a (aH 0 h)) λb _=>aA (aC 11 b (aH 0 h)) λc _=>aA (aF c (aH 0 h)) λd _=>aA (aZ 2 d (aH 0 h)) λi _=>gtO (ge 0 f) λj=>aA (aP j (aH 0 h)) λm _=>aA (aC 0 m (aH 0 h)) λn _=>aA (aC 2 n (aH 0 h)) λo _=>aA (aF o (aH 0 h)) λp _=>aA (aI .geq .none i p (aH 0 h)) λq _=>a! (ss 51 q f) (aH 0 h)
def Ze:Rg:=λf h=>gtO (ge 4 f) λa=>aA (aZ 1 a (aH 0 h)) λb _=>gtO (ge 0 f) λc=>aA (aP c (aH 0 h)) λd _=>aA (aC 0 d (aH 0 h)) λi _=>aA (aC 4 i (aH 0 h)) λj _=>aA (aF j (aH 0 h)) λm _=>gtO (ge 0 f) λn=>aA (aP n (aH 0 h)) λo _=>aA (aC 15 o (aH 0 h)) λp _=>aA (aF p (aH 0 h)) λq _=>aA (aI .sub .none m q (aH 0 h)) λr _=>aA (aI .gtr .none b r (aH 0 h)) λs _=>a! (ss 51 s f) (aH 0 h)
def Y9:=r1 76 0 λa h=>Oi [a] h
def Y8:Rg:=λf h=>gtO (ge 14 f) λa=>gtO (ge 0 f) λb=>aA (fC (.func 47) [b] [] h) λc d=>aA (jD [a,c] d) λi j=>a! (ss 76 i f) j
def Y6:=r1 16 0 λa h=>Og [a] h
def Y5:Rg:=λf h=>gtO (ge 0 f) λa=>aA (aP a h) λb c=>aA (aC 14 b c) λd i=>aA (aF d i) λj m=>aA (aI .add .none j (Y U 1) m) λn o=>aA (aP a o) λp q=>aA (aC 14 p q) λr s=>aA (aQ 1 r n s) λ_ t=>a! f t
def Y4(fr:F)(h:Hp):Out:=
 gtO (ge 0 fr) λa=>gtO (ge 4 fr) λb=>aA (Md [a,b] (aH 1 h)) λc d=>
 gtO (ge 0 fr) λi=>aA (aP i d) λj _=>
 aA (aC 14 j d) λm _=>
 aA (aF m d) λn _=>chk (λh=>aF m h) n (
 gtO (ge 4 fr) λo=>gtO (ge 3 fr) λp=>gtO (ge 12 fr) λq=>gtO (ge 16 fr) λr=>gtO (ge 16 fr) λs=>aA (bU [(Y U 0),(Y U 0),(H []),(Y U 0),.aO,.aO,(Y U 0),(Y U 0)] [(0,1,n),(1,1,c),(2,1,o),(3,1,p),(4,1,q),(6,1,r),(7,1,s)] d) λt _=>
 zU (OB 40 [(Y U 0),(Y U 0),(H []),(Y U 0),.aO,.aO,(Y U 0),(Y U 0)]) λf e=>
 aA (aQ 8 (e (Hp.next h)) t (Hp.put d (Hp.next h) (some f))) λ_ u=>
 a! (ss 17 (e (Hp.next h)) fr) u) 1 [(aH 1 h)]
def Y3:=rC 18 (Y U 2)
def Y2:Rg:=λf h=>gtO (ge 17 f) λa=>aA (aC 1 a h) λb c=>aA (aF b c) λd i=>aA (aI .eql .none d (Y U 0) i) λj m=>a! (ss 107 j f) m
def YZ:Rg:=λf h=>gtO (ge 17 f) λa=>aA (aC 0 a h) λb c=>aA (aF b c) λd i=>aA (aC 1 a i) λj m=>aA (aQ 1 j d m) λ_ n=>a! (ss 18 (Y U 1) f) n
def YX:Rg:=λf h=>gtO (ge 14 f) λa=>aA (aZ 2 a h) λb c=>a! (ss 113 (Y U 0) (ss 112 b (ss 111 a f))) c
def YW:=r2 114 113 112 λa b h=>aI .lss .none a b h
def YV:Rg:=λf h=>gtO (ge 111 f) λa=>gtO (ge 113 f) λb=>aA (aX 1 a b h) λc d=>aA (aF c d) λi j=>a! (ss 20 i f) j
def YU(fr:F)(h:Hp):Out:=
 gtO (ge 0 fr) λa=>gtO (ge 20 fr) λb=>aA (Me [a,b] (aH 1 h)) λc d=>
 gtO (ge 17 fr) λi=>aA (aC 5 i d) λj _=>
 aA (aF j d) λm _=>chk (λh=>aF j h) m (
 zU (eu 106 [(Y U 0),(Y U 0)] 1 [(0,2,c)]) λf e=>
 aA (bK 106 2 16 m (e (Hp.next h)) (Hp.put d (Hp.next h) (some f))) λn o=>
 gtO (ge 17 fr) λp=>aA (aC 5 p o) λq _=>
 aA (aQ 1 q n o) λ_ r=>
 a! fr r) 1 [(aH 1 h)]
def YT:=r1 113 113 λa h=>aI .add .none a (Y U 1) h
def YS(fr:F)(h:Hp):Out:=
 gtO (ge 0 fr) λa=>aA (aP a (aH 1 h)) λb _=>
 aA (aC 11 b (aH 1 h)) λc _=>
 aA (aF c (aH 1 h)) λd _=>
 gtO (ge 17 fr) λi=>aA (bT 8 i (aH 1 h)) λj _=>
 zU (eu 40 [(Y U 0),(Y U 0),(H []),(Y U 0),.aO,.aO,(Y U 0),(Y U 0)] 1 [(0,8,j)]) λf e=>
 aA (bK 40 8 104 d (e (Hp.next h)) (Hp.put (aH 1 h) (Hp.next h) (some f))) λm n=>
 gtO (ge 0 fr) λo=>aA (aP o n) λp _=>
 aA (aC 11 p n) λq _=>
 aA (aQ 1 q m n) λ_ r=>
 a! fr r
def YQ:Rg:=λf h=>gtO (ge 0 f) λa=>aA (aP a h) λb c=>aA (aC 15 b c) λd i=>aA (aF d i) λj m=>gtO (ge 4 f) λn=>aA (aZ 1 n m) λo p=>aA (aI .add .none j o p) λq r=>aA (aP a r) λs t=>aA (aC 15 s t) λu v=>aA (aQ 1 u q v) λ_ w=>a! f w
def YP(fr:F)(h:Hp):Out:=
 gtO (ge 0 fr) λa=>gtO (ge 16 fr) λb=>gtO (ge 14 fr) λc=>aA (Dw [a,b,c] (aH 1 h)) λd i=>
 gtO (ge 16 fr) λj=>gtO (ge 17 fr) λm=>aA (aC 0 m i) λn _=>
 aA (aF n i) λo _=>chk (λh=>aF n h) o (
 aA (bU [(Y U 0),(Y U 0),(Y U 0),(Y U 0)] [(0,1,j),(1,1,(Y U 2)),(2,1,o),(3,1,(Y U 1))] i) λp _=>
 gtO (ge 16 fr) λq=>gtO (ge 17 fr) λr=>aA (aC 1 r i) λs _=>
 aA (aF s i) λt _=>chk (λh=>aF s h) t (
 gtO (ge 18 fr) λu=>aA (bU [(Y U 0),(Y U 0),(Y U 0),(Y U 0)] [(0,1,q),(1,1,(Y U 3)),(2,1,t),(3,1,u)] i) λv _=>
 zU (eu 85 [(Y U 0),(Y U 0),(Y U 0),(Y U 0),(Y U 0),(Y U 0),(Y U 0),(Y U 0)] 2 [(0,4,p),(4,4,v)]) λf e=>
 aA (bK 85 4 32 d (e (Hp.next h)) (Hp.put i (Hp.next h) (some f))) λw x=>
 gtO (ge 0 fr) λy=>aA (aP y x) λz _=>
 aA (aC 12 z x) λg _=>
 aA (aF g x) λk _=>chk (λh=>aF g h) k (
 aA (Ll [k,w] x) λB l=>
 a! fr l) 2 [i,(aH 1 h)]) 1 [(aH 1 h)]) 1 [(aH 1 h)]
def YO:Rg:=λf h=>gtO (ge 17 f) λa=>aA (aC 0 a h) λb c=>aA (aF b c) λd i=>a! (ss 11 (Y U 0) (ss 10 d f)) i
def apG:Rg:=(aB YW (aB (aT (.tmp 114) a! (Out.ex 1)) (aB (bG 2 (aB YV YU)) YT)))
def LV:Rg:=(aB ac3 (aB (aB ac2 (aT (.tmp 22) zz a!)) (aB (aB ac1 (aT (.tmp 33) zz a!)) (aB ac0 (aB (aB acZ (aT (.tmp 40) zz a!)) (aB acY (aB (bG 0 (aB acX (aT (.tmp 48) zz (aB (aB Zf (aT (.tmp 51) a! Ze)) (aT (.tmp 51) zz (aB (aB Y9 (aT (.tmp 76) a! Y8)) (aT (.tmp 76) zz a!))))))) (aB Y6 (aB Y5 (aB Y4 (aB Y3 (aB (aB Y2 (aT (.tmp 107) YZ a!)) (aB (aB YX (bG 1 (dH apG lf))) (aB YS (aB YQ (aB YP (aB YO c!)))))))))))))))))
def MC:Fun:=bD b! (kp [0,1,2,3,4,10,11,12,13,14,15,16,17,18,20,22,33,40,48,51,76,107,111,112,113,114]) Tryz.f20.ntmps [.tmp 10,.tmp 11] LV
theorem apO(x0 x1 a b c:V)(h:Hp):MC [x0,x1,a,b,c] h=aU b! [.tmp 10,.tmp 11] (LV (ss 4 c (ss 3 b (ss 2 a (ss 1 x1 (ss 0 x0 T.nil))))) h):=kR
theorem axi:aG b! aJ 20 MC:=prX aN [2,4,7,10,13,16] [(11,[0,1,3,7,15,0,32,96,224,480,1023,2047],gm [0,16,32,51,64,80,96,112,128,147,160,176]),(12,[0,1,0,4,12,28,60,0,128,384,896,2044,4095,8191],gm [0,16,32,48,64,80,99,112,128,144,163,176,192,208]),(19,[0,1,3,7,0,0,48,0,0,0,0,0,4095,0,16383],gm [64,80,98,0,16,32,52,112,128,144,160,176,192,209,226]),(26,[0,1,0,0,12,28,63,127,255],gm [32,48,66,0,20,81,98,112,130]),(28,[0,0,2,6,14,0,32,126,255,511,1023],gm [16,32,48,67,83,97,114,0,128,144,162]),(30,[0,1,3,7,0,0,0,112,0,0,512,1792,0,0,8192,0,61440,130816,262128,524287],gm [64,80,96,114,128,144,164,176,192,208,228,240,256,273,290,0,16,32,53,306])] (aV aq6 (aV axe (aV aq3 (aV IY (aV aq2 (aV axf (aV axg (aV ajF (aV avJ bF))))))))) Tryz.func20
def anw:Rg:=λf h=>a! (ss 3 (Y U 0) (ss 2 .bY f)) h
def anv:=r1 5 0 λa h=>aI .lss .none a (Y U 1) h
def anu:Rg:=λf h=>gtO (ge 0 f) λa=>aA (bU [(Y U 0),.aO,(Y U 0)] [(0,1,a)] h) λb c=>aA (fO 130 b c) λd i=>a! (ss 3 (Y U 0) (ss 2 d f)) i
def akU:Rg:=(aB anw (aB (aB anv (aT (.tmp 5) zz a!)) (aB anu c!)))
def abQ:Fun:=bD b! (kp [0,2,3,5]) Tryz.f55.ntmps [.tmp 2,.tmp 3] akU
theorem axE(x0:V)(h:Hp):abQ [x0] h=aU b! [.tmp 2,.tmp 3] (akU (ss 0 x0 T.nil) h):=kR
theorem aGS:aG b! aJ 55 abQ:=prX aN [2] [] bF Tryz.func55
def ana:Rg:=λf h=>gtO (ge 0 f) λa=>aA (fO 62 a h) λb c=>a! (ss 3 (Y U 0) (ss 2 .bY (ss 1 b f))) c
def am9:Rg:=λf h=>gtO (ge 1 f) λa=>aA (aC 0 a h) λb c=>aA (aF b c) λd i=>aA (wG [d] i) λj m=>aA (oUn .not j m) λn o=>ifB n (a! (ss 18 (K true) f) o) (aA (aC 1 a o) λp q=>aA (aF p q) λr s=>aA (wG [r] s) λt u=>aA (oUn .not t u) λv w=>a! (ss 18 v f) w)
def am8(fr:F)(h:Hp):Out:=
 gtO (ge 1 fr) λa=>aA (aC 2 a h) λb c=>
 aA (aF b c) λd i=>
 aA (aC 3 a i) λj m=>
 aA (aF j m) λn o=>
 aA (aC 4 a o) λp q=>
 aA (aF p q) λr s=>
 aA (aC 5 a s) λt u=>
 aA (aF t u) λv w=>
 aA (aC 6 a w) λx y=>
 aA (aF x y) λz f=>
 aA (aC 7 a f) λg k=>
 aA (aF g k) λl B=>
 aA (aC 8 a B) λC E=>
 aA (aF C E) λG I=>
 aA (bJ 3 [(Y U 0),(Y U 0),(Y U 0),(Y U 0),(Y U 0),(Y U 0),(Y U 0)] 7 [(0,1,d),(1,1,n),(2,1,r),(3,1,v),(4,1,z),(5,1,l),(6,1,G)] I) λe J=>
 aA (aZ 2 e J) λL M=>
 a! (ss 35 (Y U 0) (ss 34 L (ss 33 e fr))) M
def am7:=r2 36 35 34 λa b h=>aI .lss .none a b h
def am6:Rg:=λf h=>gtO (ge 33 f) λa=>gtO (ge 35 f) λb=>aA (aX 1 a b h) λc d=>aA (aF c d) λi j=>a! (ss 5 i f) j
def am5:Rg:=λf h=>gtO (ge 5 f) λa=>aA (aI .lss .none a (Y U 1) h) λb c=>ifB b (a! (ss 44 (K true) f) c) (aA (aI .gtr .none a (Y U 2147483647) c) λd i=>a! (ss 44 d f) i)
def am4:=r1 35 35 λa h=>aI .add .none a (Y U 1) h
def am3:Rg:=λf h=>gtO (ge 1 f) λa=>aA (aC 7 a h) λb c=>aA (aF b c) λd i=>aA (abQ [d] i) λj m=>aA (bQ 0 j m) λn o=>aA (bQ 1 j o) λp q=>a! (ss 6 n f) q
def aiA:Rg:=λf h=>gtO (ge 1 f) λa=>aA (bT 9 a h) λb c=>aA (bU [(Y U 0),(H []),(Y U 0),(Y U 0),(Y U 0),(Y U 0)] [(0,1,(Y U 1)),(1,1,(H [73,78,66,79,88])),(3,1,(Y U 1)),(4,1,(Y U 1)),(5,1,(Y U 1))] c) λd i=>aA (bJ 55 [(Y U 0),(H []),(Y U 0),(Y U 0),(Y U 0),(Y U 0)] 1 [(0,6,d)] i) λj m=>gtO (ge 6 f) λn=>aA (bU [(H []),(H []),(Y U 0),(Y U 0),(Y U 0),(Y U 0),(Y U 0),(Y U 0),(Y U 0),(Y U 0),.aO,.aO,.bY,(Y U 0),(Y U 0),(Y U 0)] [(0,9,b),(10,1,j),(12,1,n),(13,1,(Y U 1))] m) λo p=>aA (fO 78 o p) λq r=>a! (ss 8 q f) r
def aiz:Rg:=λf h=>gtO (ge 8 f) λa=>aA (aP a h) λb c=>aA (aC 9 b c) λd i=>aA (mQ [d,(Y U 1)] i) λj m=>a! f m
def aiy:Rg:=λf h=>gtO (ge 8 f) λa=>a! (ss 3 (Y U 0) (ss 2 a f)) h
def aBW:Rg:=(aB am7 (aB (aT (.tmp 36) a! (Out.ex 0)) (aB (bG 1 (aB am6 (aB am5 (aT (.tmp 44) zz a!)))) am4)))
def abf:Rg:=(aB ana (aB (aB am9 (aT (.tmp 18) zz a!)) (aB (aB am8 (bG 0 (dH aBW lf))) (aB am3 (aB aiA (aB aiz (aB aiy c!)))))))
def abL:Fun:=bD b! (kp [0,1,2,3,5,6,8,18,33,34,35,36,44]) Tryz.f26.ntmps [.tmp 2,.tmp 3] abf
theorem axx(x0:V)(h:Hp):abL [x0] h=aU b! [.tmp 2,.tmp 3] (abf (ss 0 x0 T.nil) h):=kR
theorem aGN:aG b! aJ 26 abL:=prX aN [2,7] [] (aV aq1 (aV aGS (aV IZ bF))) Tryz.func26
def ai4:Rg:=λf h=>aA (fE 62 [(H []),(H []),(Y U 0),(Y U 0),(Y U 0),(Y U 0),(Y U 0),(Y U 0),(Y U 0)] h) λa b=>a! (ss 0 a f) b
def ai3:Rg:=λf h=>aA (bU [(H []),(H []),(Y U 0),(Y U 0),(Y U 0),(Y U 0),(Y U 0),(Y U 0),(Y U 0)] [(0,1,(H [117])),(1,1,(H [112])),(2,1,(Y U 1000)),(3,1,(Y U 100)),(4,1,(Y U 1048576)),(5,1,(Y U 1073741824)),(6,1,(Y U 1073741824)),(7,1,(Y U 10000)),(8,1,(Y U 200))] h) λa b=>gtO (ge 0 f) λc=>aA (aQ 9 c a b) λ_ d=>a! f d
def agf:Rg:=(aB ai4 (aB ai3 c!))
def V5:Fun:=bD b! (kp [0]) Tryz.f27.ntmps [.cell 0 62] agf
theorem av6(h:Hp):V5 [] h=aU b! [.cell 0 62] (agf T.nil h):=kR
theorem aEq:aG b! aJ 27 V5:=prX aN [] [] bF Tryz.func27
def ant:=rC 2 (Y U 0)
def anr:=rM 2 0
def akT:Rg:=(aB ant (aB anr c!))
def abP:Fun:=bD b! (kp [0,2]) Tryz.f28.ntmps [.tmp 2] akT
theorem axD(x0:V)(h:Hp):abP [x0] h=aU b! [.tmp 2] (akT (ss 0 x0 T.nil) h):=kR
theorem aGQ:aG b! aJ 28 abP:=prX aN [] [] bF Tryz.func28
def aEc:=rC 0 .bY
def aEb:Rg:=λf h=>aA (bU [(K false),.bY,(K false),(Y U 0),.jW] [] h) λa b=>aA (fO 119 a b) λc d=>a! (ss 1 c f) d
def aEa(fr:F)(h:Hp):Out:=
 gtO (ge 1 fr) λa=>aA (ZY h) λb c=>
 aA (fC (.func 57) [a] [] c) λd i=>
 aA (bU [.iH,(Y U 0),(K false)] [(0,1,d),(1,1,(Y U 0)),(2,1,(K false))] i) λj m=>
 aA (gU .string b (H [99,97,112,97,98,105,108,105,116,121]) j m) λ_ n=>
 aA (fC (.func 58) [a] [] n) λo p=>
 aA (bU [.iH,(Y U 0),(K false)] [(0,1,o),(1,1,(Y U 0)),(2,1,(K false))] p) λq r=>
 aA (gU .string b (H [110,111,111,112]) q r) λ_ s=>
 aA (fC (.func 59) [a] [] s) λt u=>
 aA (bU [.iH,(Y U 0),(K false)] [(0,1,t),(1,1,(Y U 0)),(2,1,(K false))] u) λv w=>
 aA (gU .string b (H [108,111,103,111,117,116]) v w) λ_ x=>
 aA (fC (.func 60) [a] [] x) λy z=>
 aA (bU [.iH,(Y U 0),(K false)] [(0,1,y),(1,1,(Y U 1)),(2,1,(K false))] z) λe f=>
 aA (gU .string b (H [108,111,103,105,110]) e f) λ_ g=>
 aA (fC (.func 61) [a] [] g) λk l=>
 aA (bU [.iH,(Y U 0),(K false)] [(0,1,k),(1,1,(Y U 2)),(2,1,(K false))] l) λB C=>
 aA (gU .string b (H [115,101,108,101,99,116]) B C) λ_ E=>
 aA (fC (.func 62) [a] [] E) λG I=>
 aA (bU [.iH,(Y U 0),(K false)] [(0,1,G),(1,1,(Y U 2)),(2,1,(K false))] I) λJ L=>
 aA (gU .string b (H [101,120,97,109,105,110,101]) J L) λ_ M=>
 aA (fC (.func 63) [a] [] M) λP Q=>
 aA (bU [.iH,(Y U 0),(K false)] [(0,1,P),(1,1,(Y U 2)),(2,1,(K false))] Q) λS W=>
 aA (gU .string b (H [99,114,101,97,116,101]) S W) λ_ Z=>
 aA (fC (.func 64) [a] [] Z) λau av=>
 aA (bU [.iH,(Y U 0),(K false)] [(0,1,au),(1,1,(Y U 2)),(2,1,(K false))] av) λaw ax=>
 aA (gU .string b (H [100,101,108,101,116,101]) aw ax) λ_ ay=>
 aA (fC (.func 65) [a] [] ay) λaz ba=>
 aA (bU [.iH,(Y U 0),(K false)] [(0,1,az),(1,1,(Y U 2)),(2,1,(K false))] ba) λbb bc=>
 aA (gU .string b (H [114,101,110,97,109,101]) bb bc) λ_ bd=>
 aA (fC (.func 66) [a] [] bd) λbe bf=>
 aA (bU [.iH,(Y U 0),(K false)] [(0,1,be),(1,1,(Y U 2)),(2,1,(K false))] bf) λbg bh=>
 aA (gU .string b (H [108,105,115,116]) bg bh) λ_ bi=>
 aA (fC (.func 67) [a] [] bi) λbj bk=>
 aA (bU [.iH,(Y U 0),(K false)] [(0,1,bj),(1,1,(Y U 2)),(2,1,(K false))] bk) λbl bm=>
 aA (gU .string b (H [115,116,97,116,117,115]) bl bm) λ_ bn=>
 aA (fC (.func 68) [a] [] bn) λbo bp=>
 aA (bU [.iH,(Y U 0),(K false)] [(0,1,bo),(1,1,(Y U 2)),(2,1,(K false))] bp) λbq br=>
 aA (gU .string b (H [97,112,112,101,110,100]) bq br) λ_ bs=>
 aA (fC (.func 58) [a] [] bs) λbt bu=>
 aA (bU [.iH,(Y U 0),(K false)] [(0,1,bt),(1,1,(Y U 3)),(2,1,(K false))] bu) λbv bw=>
 aA (gU .string b (H [99,104,101,99,107]) bv bw) λ_ bx=>
 aA (fC (.func 69) [a] [] bx) λbz ca=>
 aA (bU [.iH,(Y U 0),(K false)] [(0,1,bz),(1,1,(Y U 3)),(2,1,(K false))] ca) λcb cc=>
 aA (gU .string b (H [99,108,111,115,101]) cb cc) λ_ cd=>
 aA (fC (.func 70) [a] [] cd) λce cf=>
 aA (bU [.iH,(Y U 0),(K false)] [(0,1,ce),(1,1,(Y U 3)),(2,1,(K true))] cf) λcg ch=>
 aA (gU .string b (H [101,120,112,117,110,103,101]) cg ch) λ_ ci=>
 aA (fC (.func 71) [a] [] ci) λcj ck=>
 aA (bU [.iH,(Y U 0),(K false)] [(0,1,cj),(1,1,(Y U 3)),(2,1,(K true))] ck) λcl cm=>
 aA (gU .string b (H [115,101,97,114,99,104]) cl cm) λ_ cn=>
 aA (fC (.func 72) [a] [] cn) λco cp=>
 aA (bU [.iH,(Y U 0),(K false)] [(0,1,co),(1,1,(Y U 3)),(2,1,(K true))] cp) λcq cr=>
 aA (gU .string b (H [102,101,116,99,104]) cq cr) λ_ cs=>
 aA (fC (.func 73) [a] [] cs) λct cu=>
 aA (bU [.iH,(Y U 0),(K false)] [(0,1,ct),(1,1,(Y U 3)),(2,1,(K true))] cu) λcv cw=>
 aA (gU .string b (H [115,116,111,114,101]) cv cw) λ_ cx=>
 aA (fC (.func 74) [a] [] cx) λcy cz=>
 aA (bU [.iH,(Y U 0),(K false)] [(0,1,cy),(1,1,(Y U 3)),(2,1,(K true))] cz) λda db=>
 aA (gU .string b (H [99,111,112,121]) da db) λ_ dc=>
 aA (fC (.func 75) [a] [] dc) λdd de=>
 aA (bU [.iH,(Y U 0),(K false)] [(0,1,dd),(1,1,(Y U 3)),(2,1,(K true))] de) λdf dg=>
 aA (gU .string b (H [109,111,118,101]) df dg) λ_ dh=>
 aA (aP a dh) λdi dj=>
 aA (aC 4 di dj) λdk dl=>
 aA (aQ 1 dk b dl) λ_ dm=>
 a! fr dm
def aD9:=rM 0 1
def aGG:Rg:=(aB aEc (aB aEb (aB aEa (aB aD9 c!))))
def aB1:Fun:=bD b! (kp [0,1]) Tryz.f29.ntmps [.tmp 0] aGG
theorem aLd(h:Hp):aB1 [] h=aU b! [.tmp 0] (aGG T.nil h):=kR
theorem aPb:aG b! aJ 29 aB1:=prX aN [] [] bF Tryz.func29
abbrev ak6:Fun:=Ik.ao7
theorem aGR:aG b! aJ 40 ak6:=Ik.aKm
abbrev aq7:Fun:=Ik.ao6
theorem aEo:aG b! aJ 41 aq7:=Ik.aKl
def anq:=rC 6 (H [])
def anp:Rg:=λf h=>aA (ak6 [(Y U 4000)] h) λa b=>gtO (ge 2 f) λc=>aA (EN c b) λd i=>aA (aq7 [a,d] i) λj m=>a! (ss 7 j f) m
def ano:=rC 8 (H [])
def ann:=rC 9 (Y U 0)
def QL:Rg:=λf h=>gtO (ge 9 f) λa=>gtO (ge 7 f) λb=>aA (aZ 2 b h) λc d=>aA (aI .lss .none a c d) λi j=>a! (ss 19 i f) j
def aaL:Rg:=λf h=>gtO (ge 0 f) λa=>gtO (ge 1 f) λb=>gtO (ge 7 f) λc=>gtO (ge 9 f) λd=>aA (aX 2 c d h) λi j=>aA (bT 2 i j) λm n=>aA (ahn [a,b,(Y U 0),m] n) λo p=>aA (bQ 0 o p) λq r=>aA (bQ 1 o r) λs t=>a! (ss 11 s (ss 10 q f)) t
def aaK:=r2 8 8 10 λa b h=>aI .add .none a b h
def aaJ:=r1 36 11 λa h=>oUn .not a h
def anm:=r1 9 9 λa h=>aI .add .none a (Y U 1) h
def anl:=rM 6 8
def QV:Rg:=(aB (aB QL (aT (.tmp 19) a! (Out.ex 0))) (aB (bG 1 (aB aaL (aB aaK (aB aaJ (aT (.tmp 36) (Out.ex 0) a!))))) anm))
def abn:Rg:=(aB anq (aB anp (aB ano (aB (aB ann (bG 0 (dH QV lf))) (aB anl c!)))))
def UG:Fun:=bD b! (kp [0,1,2,6,7,8,9,10,11,19,36]) Tryz.f13.ntmps [.tmp 6] abn
theorem axC(x0 x1 a:V)(h:Hp):UG [x0,x1,a] h=aU b! [.tmp 6] (abn (ss 2 a (ss 1 x1 (ss 0 x0 T.nil))) h):=kR
theorem avI:aG b! aJ 13 UG:=prX aN [] [] (aV aGR (aV aEo (aV aOj bF))) Tryz.func13
def aqL:=rC 2 .bY
def aqK:Rg:=λf h=>aA (aB1 [] h) λa b=>a! (ss 3 a f) b
def aqJ:Rg:=λf h=>gtO (ge 3 f) λa=>gtO (ge 0 f) λb=>aA (UG [a,b,(H [97,32,76,79,71,73,78,32,117,32,112,13,10,98,32,83,69,76,69,67,84,32,73,78,66,79,88,13,10])] h) λc d=>a! f d
def aqI:=rM 2 3
def apz:Rg:=(aB aqL (aB aqK (aB aqJ (aB aqI c!))))
def ahm:Fun:=bD b! (kp [0,2,3]) Tryz.f12.ntmps [.tmp 2] apz
theorem aB0(x0:V)(h:Hp):ahm [x0] h=aU b! [.tmp 2] (apz (ss 0 x0 T.nil) h):=kR
theorem aLc:aG b! aJ 12 ahm:=prX aN [] [] (aV aPb (aV avI bF)) Tryz.func12
def adb:=rC 2 .bY
def ada:Rg:=λf h=>aA (V5 [] h) λa b=>aA (abL [a] b) λc d=>aA (bQ 0 c d) λi j=>aA (bQ 1 c j) λm n=>a! (ss 4 m (ss 3 i f)) n
def ac9:Rg:=λf h=>gtO (ge 4 f) λa=>aA (abP [a] h) λb c=>aA (aI .neq .none b (Y U 0) c) λd i=>ifB d (a! (ss 17 (K true) f) i) (gtO (ge 3 f) λj=>aA (aI .eql (.ptr 16) j .bY i) λm n=>a! (ss 17 m f) n)
def ac8:=rC 5 (Y U 0)
def OE:Rg:=λf h=>gtO (ge 5 f) λa=>gtO (ge 0 f) λb=>aA (aZ 2 b h) λc d=>aA (aI .lss .none a c d) λi j=>a! (ss 21 i f) j
def ac6:Rg:=λf h=>gtO (ge 3 f) λa=>aA (bJ 3 [(Y U 0)] 1 [(0,1,(Y U 1))] h) λb c=>gtO (ge 5 f) λd=>gtO (ge 0 f) λi=>aA (aX 1 i d c) λj m=>aA (aF j m) λn o=>aA (MC [a,b,.aO,d,n] o) λp q=>a! f q
def ac7:=r1 5 5 λa h=>aI .add .none a (Y U 1) h
def ac5:=rM 2 3
def Po:Rg:=(aB (aB OE (aT (.tmp 21) a! (Out.ex 0))) (aB (bG 1 ac6) ac7))
def LW:Rg:=(aB adb (aB ada (aB (aB ac9 (aT (.tmp 17) zz a!)) (aB (aB ac8 (bG 0 (dH Po lf))) (aB ac5 c!)))))
def MF:Fun:=bD b! (kp [0,2,3,4,5,17,21]) Tryz.f10.ntmps [.tmp 2] LW
theorem apP(x0:V)(h:Hp):MF [x0] h=aU b! [.tmp 2] (LW (ss 0 x0 T.nil) h):=kR
theorem axj:aG b! aJ 10 MF:=prX aN [3] [] (aV aEq (aV aGN (aV aGQ (aV axi bF)))) Tryz.func10
abbrev QZ:Fun:=Ik.aDG
theorem aBO:aG b! aJ 9 QZ:=Ik.aMZ
def ani:=rC 4 (K false)
def anh:=rC 5 (Y U 0)
def QK:Rg:=λf h=>gtO (ge 5 f) λa=>gtO (ge 0 f) λb=>aA (aZ 2 b h) λc d=>aA (aI .lss .none a c d) λi j=>a! (ss 9 i f) j
def aaI:Rg:=λf h=>gtO (ge 0 f) λa=>gtO (ge 5 f) λb=>aA (aX 1 a b h) λc d=>aA (aF c d) λi j=>gtO (ge 1 f) λm=>aA (aI .eql .none i m j) λn o=>a! (ss 17 n f) o
def anf:=rC 4 (K true)
def ang:=r1 5 5 λa h=>aI .add .none a (Y U 1) h
def ane:=rC 4 (K false)
def QU:Rg:=(aB (aB QK (aT (.tmp 9) a! (Out.ex 0))) (aB (bG 1 (aB aaI (aT (.tmp 17) (aB anf c!) a!))) ang))
def abm:Rg:=(aB ani (aB (aB anh (bG 0 (dH QU lf))) (aB ane c!)))
def UF:Fun:=bD b! (kp [0,1,4,5,9,17]) Tryz.f16.ntmps [.tmp 4] abm
theorem axA(x0 x1:V)(h:Hp):UF [x0,x1] h=aU b! [.tmp 4] (abm (ss 1 x1 (ss 0 x0 T.nil)) h):=kR
theorem aGP:aG b! aJ 16 UF:=prX aN [] [] bF Tryz.func16
def aiX:=rC 2 (H [])
def aiW:=rC 3 .aO
def aiV:=rC 4 (Y U 0)
def aiU:=rC 5 (Y U 0)
def LU:Rg:=λf h=>gtO (ge 5 f) λa=>gtO (ge 0 f) λb=>aA (aZ 2 b h) λc d=>aA (aI .lss .none a c d) λi j=>a! (ss 11 i f) j
def WZ:Rg:=λf h=>gtO (ge 0 f) λa=>gtO (ge 5 f) λb=>aA (aX 1 a b h) λc d=>aA (aF c d) λi j=>gtO (ge 4 f) λm=>aA (aI .leq .none i m j) λn o=>a! (ss 19 n f) o
def WY:Rg:=λf h=>gtO (ge 3 f) λa=>aA (aZ 2 a h) λb c=>aA (aI .gtr .none b (Y U 0) c) λd i=>ifB d (gtO (ge 0 f) λj=>gtO (ge 5 f) λm=>aA (aX 1 j m i) λn o=>aA (aF n o) λp q=>gtO (ge 4 f) λr=>aA (aI .add .none r (Y U 1) q) λs t=>aA (aI .eql .none p s t) λu v=>a! (ss 31 u f) v) (a! (ss 31 (K false) f) i)
def aiT:Rg:=λf h=>gtO (ge 3 f) λa=>aA (aZ 2 a h) λb c=>aA (aI .sub .none b (Y U 1) c) λd i=>gtO (ge 0 f) λj=>gtO (ge 5 f) λm=>aA (aX 1 j m i) λn o=>aA (aF n o) λp q=>aA (aX 2 a d q) λr s=>aA (aC 1 r s) λt u=>aA (aQ 1 t p u) λ_ v=>a! f v
def aiS(fr:F)(h:Hp):Out:=
 gtO (ge 3 fr) λa=>gtO (ge 0 fr) λb=>gtO (ge 5 fr) λc=>aA (aX 1 b c (aH 1 h)) λd _=>
 aA (aF d (aH 1 h)) λi _=>
 gtO (ge 0 fr) λj=>gtO (ge 5 fr) λm=>aA (aX 1 j m (aH 1 h)) λn _=>
 aA (aF n (aH 1 h)) λo _=>
 aA (bU [(Y U 0),(Y U 0)] [(0,1,i),(1,1,o)] (aH 1 h)) λp _=>
 zU (eu 98 [(Y U 0),(Y U 0)] 1 [(0,2,p)]) λf e=>
 aA (bK 98 2 16 a (e (Hp.next h)) (Hp.put (aH 1 h) (Hp.next h) (some f))) λq r=>
 a! (ss 3 q fr) r
def TV:Rg:=λf h=>gtO (ge 0 f) λa=>gtO (ge 5 f) λb=>aA (aX 1 a b h) λc d=>aA (aF c d) λi j=>a! (ss 4 i f) j
def W9:=r1 5 5 λa h=>aI .add .none a (Y U 1) h
def afn:=rC 6 (H [])
def afm:=rC 7 (Y U 0)
def IG:Rg:=λf h=>gtO (ge 7 f) λa=>gtO (ge 3 f) λb=>aA (aZ 2 b h) λc d=>aA (aI .lss .none a c d) λi j=>a! (ss 61 i f) j
def TT:=r1 65 7 λa h=>aI .gtr .none a (Y U 0) h
def TS:Rg:=λf h=>gtO (ge 6 f) λa=>gtO (ge 3 f) λb=>gtO (ge 7 f) λc=>aA (aX 2 b c h) λd i=>aA (aC 0 d i) λj m=>aA (aF j m) λn o=>aA (uY [n] o) λp q=>aA (aI .add .none a p q) λr s=>a! (ss 6 r f) s
def TR:Rg:=λf h=>gtO (ge 3 f) λa=>gtO (ge 7 f) λb=>aA (aX 2 a b (aH 0 h)) λc _=>aA (aC 1 c (aH 0 h)) λd _=>aA (aF d (aH 0 h)) λi _=>gtO (ge 3 f) λj=>gtO (ge 7 f) λm=>aA (aX 2 j m (aH 0 h)) λn _=>aA (aC 0 n (aH 0 h)) λo _=>aA (aF o (aH 0 h)) λp _=>aA (aI .gtr .none i p (aH 0 h)) λq _=>a! (ss 86 q f) (aH 0 h)
def afl:Rg:=λf h=>gtO (ge 6 f) λa=>aA (aI .add .none a (H [58]) h) λb c=>gtO (ge 3 f) λd=>gtO (ge 7 f) λi=>aA (aX 2 d i c) λj m=>aA (aC 1 j m) λn o=>aA (aF n o) λp q=>aA (uY [p] q) λr s=>aA (aI .add .none b r s) λt u=>a! (ss 6 t f) u
def TU:=r1 7 7 λa h=>aI .add .none a (Y U 1) h
def afk:=rM 2 6
def LZ:Rg:=(aB (aB LU (aT (.tmp 11) a! (Out.ex 0))) (aB (bG 1 (aB (aB WZ (aT (.tmp 19) (Out.ex 1) a!)) (aB (aB WY (aT (.tmp 31) aiT aiS)) TV))) W9))
def Jd:Rg:=(aB (aB IG (aT (.tmp 61) a! (Out.ex 2))) (aB (bG 3 (aB (aB TT (aT (.tmp 65) zz a!)) (aB TS (aB TR (aT (.tmp 86) afl a!))))) TU))
def VO:Rg:=(aB aiX (aB aiW (aB aiV (aB (aB aiU (bG 0 (dH LZ lf))) (aB afn (aB (aB afm (bG 2 (dH Jd lf))) (aB afk c!)))))))
def VY:Fun:=bD b! (kp [0,2,3,4,5,6,7,11,19,31,61,65,86]) Tryz.f17.ntmps [.tmp 2] VO
theorem av4(x0:V)(h:Hp):VY [x0] h=aU b! [.tmp 2] (VO (ss 0 x0 T.nil) h):=kR
theorem aEn:aG b! aJ 17 VY:=prX aN [16] [(9,[0,0,0,6,14,0,0,96,224,510,1022,2047,4095],gm [0,16,32,48,67,80,96,112,131,144,161,178,192]),(18,[0,0,3,7,15,0,0,96,224,480,1023],gm [0,16,32,48,67,80,96,112,128,147,160])] (aV ajG bF) Tryz.func17
def ED:=rC 6 (K false)
def EC:Rg:=λf h=>gtO (ge 0 f) λa=>aA (jV U a h) λb c=>aA (aI .rem .none b (Y U 12) c) λd i=>aA (aI .add .none (Y U 1) d i) λj m=>a! (ss 7 j f) m
def Ez:Rg:=λf h=>gtO (ge 7 f) λa=>aA (wR 9 16 [(H [])] a a h) λb c=>aA (MF [b] c) λd i=>a! (ss 8 d f) i
def Ey:=r1 25 8 λa h=>aI .eql (.ptr 16) a .bY h
def Ew:=r1 9 8 λa h=>ahm [a] h
def Eu:Rg:=λf h=>gtO (ge 1 f) λa=>aA (jV U a h) λb c=>aA (aI .rem .none b (Y U 20) c) λd i=>a! (ss 10 d f) i
def Et:=rC 11 (H [])
def Es:=rM 31 2
def TW:=rC 11 (H [85,73,68,32])
def BZ:Rg:=λf h=>gtO (ge 9 f) λa=>gtO (ge 8 f) λb=>gtO (ge 11 f) λc=>aA (aI .add .none (H [120,32]) c h) λd i=>aA (aI .add .none d (H [83,84,79,82,69,32,49,58,42,32,40,85,78,67,72,65,78,71,69,68,83,73,78,67,69,32]) i) λj m=>gtO (ge 10 f) λn=>aA (uY [n] m) λo p=>aA (aI .add .none j o p) λq r=>aA (aI .add .none q (H [41,32,43,70,76,65,71,83,46,83,73,76,69,78,84,32,40,121,41,13,10]) r) λs t=>aA (UG [a,b,s] t) λu v=>a! (ss 12 u f) v
def BX:=rC 13 .aO
def BV:=r1 14 8 λa h=>xB [a] h
def BU:=rC 15 (Y U 0)
def vz:=r2 46 15 7 λa b h=>aI .lss .none a b h
def BQ:=r1 16 15 λa h=>aI .add .none a (Y U 2) h
def BP:=r2 53 16 10 λa b h=>aI .gtr .none a b h
def PN:Rg:=λf h=>gtO (ge 13 f) λa=>gtO (ge 15 f) λb=>aA (aI .add .none b (Y U 1) h) λc d=>aA (bJ 3 [(Y U 0)] 1 [(0,1,c)] d) λi j=>aA (bK 3 1 8 a i j) λm n=>a! (ss 13 m f) n
def BO:Rg:=λf h=>gtO (ge 14 f) λa=>gtO (ge 15 f) λb=>aA (aX 8 a b h) λc d=>aA (aC 4 c d) λi j=>aA (aF i j) λm n=>aA (UF [m,(H [121])] n) λo p=>gtO (ge 16 f) λq=>gtO (ge 10 f) λr=>aA (aI .leq .none q r p) λs t=>aA (aI .neq .bool o s t) λu v=>a! (ss 68 u f) v
def BR:=r1 15 15 λa h=>aI .add .none a (Y U 1) h
def mV:Rg:=λf h=>gtO (ge 13 f) λa=>aA (aZ 2 a h) λb c=>aA (aI .eql .none b (Y U 0) c) λd i=>a! (ss 71 d f) i
def pK:Rg:=λf h=>gtO (ge 12 f) λa=>aA (aI .eql .none a (H [120,32,79,75,32,100,111,110,101,13,10]) h) λb c=>ifB b (aA (QZ [] c) λd i=>a! (ss 6 d f) i) (a! (ss 6 (K false) f) c)
def pJ:Rg:=λf h=>gtO (ge 12 f) λa=>gtO (ge 13 f) λb=>aA (VY [b] h) λc d=>aA (aI .add .none (H [120,32,79,75,32,91,77,79,68,73,70,73,69,68,32]) c d) λi j=>aA (aI .add .none i (H [93,32,100,111,110,101,13,10]) j) λm n=>aA (aI .eql .none a m n) λo p=>ifB o (aA (QZ [] p) λq r=>a! (ss 6 q f) r) (a! (ss 6 (K false) f) p)
def pR:Rg:=(aB (aB vz (aT (.tmp 46) a! (Out.ex 0))) (aB (bG 1 (aB BQ (aB (aB BP (aT (.tmp 53) PN a!)) (aB BO (aT (.tmp 68) zz a!))))) BR))
def vS:Rg:=(aB ED (aB EC (aB Ez (aB (aB Ey (aT (.tmp 25) zz a!)) (aB Ew (aB Eu (aB Et (aB (aB Es (aT (.tmp 31) TW a!)) (aB BZ (aB BX (aB BV (aB (aB BU (bG 0 (dH pR lf))) (aB (aB mV (aT (.tmp 71) (aB pK c!) a!)) (aB pJ c!))))))))))))))
def Lh:Fun:=bD b! (kp [0,1,2,6,7,8,9,10,11,12,13,14,15,16,25,31,46,53,68,71]) Tryz.f4.ntmps [.tmp 6] vS
theorem ahx(x0 x1 a:V)(h:Hp):Lh [x0,x1,a] h=aU b! [.tmp 6] (vS (ss 2 a (ss 1 x1 (ss 0 x0 T.nil))) h):=kR
theorem apD:aG b! aJ 4 Lh:=prX aN [4,20] [] (aV axj (aV aLc (aV ajG (aV avI (aV QO (aV aGP (aV aBO (aV aEn bF)))))))) Tryz.func4
end Go.Proofs.Im
