/- Lemmas that the claim's last text uses. No conditions. -/
import Derived.Test.YtpgppmioigacoaaGreatDoorDrAH
import Derived.Test.YtpgppmioigacoaaGreatDoorDrAL
import Derived.Test.YtpgppmioigacoaaGreatDoorDrAJ
set_option linter.all false
set_option maxHeartbeats 4000000
set_option maxRecDepth 100000
open Go.Vm.Out renaming nor→a!,ret→c!
open Go.Proofs.Tryz renaming prog→b!
open Go.Vm.V renaming int→Y,bool→K,str→H
open Go.IntKind renaming i64→U
noncomputable section
open Go Go.Proofs Go.Vm
namespace Go.Proofs.Im
abbrev tBd:TypeId:=141
abbrev tA:TypeId:=145
abbrev tRq:TypeId:=143
abbrev tCn:TypeId:=119
abbrev I7:TypeId:=62
abbrev alH:TypeId:=122
abbrev aBv:TypeId:=94
abbrev apB:TypeId:=149
abbrev tSS:TypeId:=26
abbrev tSt:TypeId:=78
abbrev tLg:TypeId:=130
abbrev tBx:TypeId:=55
abbrev tMl:TypeId:=40
abbrev tEn:TypeId:=85
abbrev tMb:TypeId:=106
abbrev Ux:TypeId:=9
abbrev iW:TypeId:=3
abbrev tVw:TypeId:=246
abbrev tVm:TypeId:=248
abbrev tTh:TypeId:=250
abbrev tMs:TypeId:=200
abbrev tPr:TypeId:=138
abbrev ab8:TypeId:=98
abbrev tRs:TypeId:=96
abbrev tPs:TypeId:=24
abbrev tTs:TypeId:=242
abbrev tBs:TypeId:=22
abbrev tBl:TypeId:=4
abbrev tIs:TypeId:=36
abbrev tAt:TypeId:=75
abbrev tAs:TypeId:=406
abbrev tFl:TypeId:=263
abbrev KL:Nat:=47
abbrev acd:Nat:=52
abbrev aHT:Nat:=57
abbrev apI:Nat:=58
abbrev aHS:Nat:=59
abbrev aBw:Nat:=60
abbrev ahk:Nat:=61
abbrev Uz:Nat:=62
abbrev aiQ:Nat:=63
abbrev apF:Nat:=64
abbrev aiP:Nat:=65
abbrev apE:Nat:=66
abbrev aiN:Nat:=67
abbrev aiR:Nat:=68
abbrev Tm:Nat:=69
abbrev CV:Nat:=70
abbrev aiO:Nat:=71
abbrev anu:Nat:=72
abbrev ant:Nat:=73
abbrev apG:Nat:=74
abbrev apD:Nat:=75
abbrev anr:Nat:=77
abbrev anv:Nat:=79
abbrev CU:Nat:=102
abbrev atp:Nat:=104
abbrev aKb:Nat:=155
abbrev aKa:Nat:=156
abbrev aJ9:Nat:=158
abbrev apC:Nat:=169
abbrev afk:Nat:=174
abbrev CS:Nat:=176
abbrev zn:Nat:=178
abbrev apH:Nat:=208
abbrev Fv:Nat:=217
abbrev vS:Nat:=218
abbrev aah:Nat:=222
abbrev ahj:Nat:=225
abbrev aKc:Nat:=250
abbrev aKI:Nat:=256
abbrev Uy:Nat:=284
abbrev PU:Nat:=290
abbrev ab9:Nat:=301
abbrev auI:Nat:=329
def atl:Fun:=Wi U
theorem aJ1:aG b! aH 166 atl:=ajM Tryz.func166 kR kR kR U kR
def J6:Fun:=YT U
theorem am2:aG b! aH 101 J6:=atS Tryz.func101 kR kR kR U kR
def Iq:Fun:=KX
theorem ali:aG b! aH 108 Iq:=acU Tryz.func108 kR kR kR kR
def asD:=rC 4 (Y U 0)
def asC:Rg:=λf h=>gtO (ge 0 f) λa=>aA (aN a h) λb c=>aA (aC 0 b c) λd i=>gtO (ge 1 f) λj=>aA (atl [d,j] i) λm n=>a! (ss 4 m f) n
def asI:Rg:=(aB asD (aB asC c!))
def XK:Fun:=bC b! (kp [0,1,4]) Tryz.f84.ntmps [.tmp 4] asI
theorem aBm(a b:V)(h:Hp):XK [a,b] h=aU b! [.tmp 4] (asI (ss 1 b (ss 0 a T.nil)) h):=kR
theorem aBe:aG b! aH 84 XK:=prX aO [] [] (aW aJ1 bF) Tryz.func84
def ag4:=rC 2 (Y U 0)
def ag1:Rg:=λf h=>gtO (ge 0 f) λa=>aA (aN a h) λb c=>aA (aC 0 b c) λd i=>aA (J6 [d] i) λj m=>a! (ss 2 j f) m
def ad4:Rg:=(aB ag4 (aB ag1 c!))
def vN:Fun:=bC b! (kp [0,2]) Tryz.f44.ntmps [.tmp 2] ad4
theorem ath(a:V)(h:Hp):vN [a] h=aU b! [.tmp 2] (ad4 (ss 0 a T.nil) h):=kR
theorem Ui:aG b! aH 44 vN:=prX aO [] [] (aW am2 bF) Tryz.func44
def adE:Rg:=λf h=>gtO (ge 0 f) λa=>aA (aN a h) λb c=>aA (aC 0 b c) λd i=>gtO (ge 1 f) λj=>aA (Iq [d,j] i) λm n=>a! f n
def ZM:Rg:=adE
def pI:Fun:=bC b! (kp [0,1]) Tryz.f56.ntmps [] ZM
theorem ao6(a b:V)(h:Hp):pI [a,b] h=aU b! [] (ZM (ss 1 b (ss 0 a T.nil)) h):=kR
theorem O1:aG b! aH 56 pI:=prX aO [] [] (aW ali bF) Tryz.func56
def asA:=rC 2 (H [])
def asz:Rg:=λf h=>gtO (ge 0 f) λa=>aA (aZ 1 a h) λb c=>aA (vZ 5 1 [(Y .u8 0)] (Y U 0) b c) λd i=>a! (ss 3 d f) i
def asy:Rg:=λf h=>gtO (ge 0 f) λa=>aA (aZ 1 a h) λb c=>a! (ss 11 (Y U 0) (ss 10 b f)) c
def RI:=r2 12 11 10 λa b h=>aJ .lss .none a b h
def Zw:=rM 4 11
def Zu:=r2 5 0 4 λa b h=>mX a b h
def Zt:Rg:=λf h=>gtO (ge 5 f) λa=>aA (aJ .geq .none a (Y .u8 65) h) λb c=>ifB b (aA (aJ .leq .none a (Y .u8 90) c) λd i=>a! (ss 22 d f) i) (a! (ss 22 (K false) f) c)
def Zr:=r1 5 5 λa h=>aJ .add .none a (Y .u8 32) h
def Zq:Rg:=λf h=>gtO (ge 3 f) λa=>gtO (ge 5 f) λb=>aA (bY 5 [(Y .u8 0)] 1 [(0,1,b)] h) λc d=>aA (cZ 5 1 1 a c d) λi j=>a! (ss 3 i f) j
def Zo:=r1 11 11 λa h=>aJ .add .none a (Y U 1) h
def aoq:Rg:=λf h=>gtO (ge 3 f) λa=>aA (zq a h) λb c=>a! (ss 2 b f) c
def Sz:Rg:=(aB RI (aB (aV (.tmp 12) a! (Out.ex 0)) (aB (bK 1 (aB Zw (aB Zu (aB (aB Zt (aV (.tmp 22) Zr a!)) Zq)))) Zo)))
def asG:Rg:=(aB asA (aB asz (aB (aB asy (bK 0 (dI Sz lf))) (aB aoq c!))))
def Dy:Fun:=bC b! (kp [0,2,3,4,5,10,11,12,22]) Tryz.f95.ntmps [.tmp 2] asG
theorem aBl(a:V)(h:Hp):Dy [a] h=aU b! [.tmp 2] (asG (ss 0 a T.nil) h):=kR
theorem alk:aG b! aH 95 Dy:=prX aO [] [] bF Tryz.func95
def wZ:Fun:=aqX
theorem ZQ:aG b! aH 289 wZ:=al9 Tryz.func289 kR kR kR kR
def QW:=rC 4 (Y U 0)
def QV:=r2 4 0 1 λa b h=>wZ [a,b] h
def JU:Rg:=(aB QW (aB QV c!))
def Ba:Fun:=bC b! (kp [0,1,4]) Tryz.f184.ntmps [.tmp 4] JU
theorem afe(a b:V)(h:Hp):Ba [a,b] h=aU b! [.tmp 4] (JU (ss 1 b (ss 0 a T.nil)) h):=kR
theorem amY:aG b! aH 184 Ba:=prX aO [] [] (aW ZQ bF) Tryz.func184
def Rj:=rC 4 (Y U 0)
def Rh:=r2 4 0 1 λa b h=>Ba [a,b] h
def JV:Rg:=(aB Rj (aB Rh c!))
def Bc:Fun:=bC b! (kp [0,1,4]) Tryz.f107.ntmps [.tmp 4] JV
theorem aff(a b:V)(h:Hp):Bc [a,b] h=aU b! [.tmp 4] (JV (ss 1 b (ss 0 a T.nil)) h):=kR
theorem amZ:aG b! aH 107 Bc:=prX aO [] [] (aW amY bF) Tryz.func107
def afQ:=rC 2 (K false)
def afP:Rg:=λf h=>gtO (ge 0 f) λa=>aA (aZ 1 a h) λb c=>a! (ss 6 (Y U 0) (ss 5 b f)) c
def afO:=r2 7 6 5 λa b h=>aJ .lss .none a b h
def CY:=rM 3 6
def CX:Rg:=λf h=>gtO (ge 0 f) λa=>gtO (ge 3 f) λb=>aA (mX a b h) λc d=>aA (aJ .lss .none c (Y .u8 33) d) λi j=>ifB i (a! (ss 25 (K true) f) j) (aA (mX a b j) λm n=>aA (aJ .gtr .none m (Y .u8 126) n) λo p=>ifB o (a! (ss 25 (K true) f) p) (aA (mX a b p) λq r=>aA (Bc [(H [40,41,123,125,37,42,34,92,93]),q] r) λs t=>aA (aJ .geq .none s (Y U 0) t) λu v=>a! (ss 25 u f) v))
def Ku:=rC 2 (K false)
def afN:=r1 6 6 λa h=>aJ .add .none a (Y U 1) h
def afM:=r1 2 0 λa h=>aJ .neq .none a (H []) h
def ahc:Rg:=(aB afO (aB (aV (.tmp 7) a! (Out.ex 0)) (aB (bK 1 (aB CY (aB CX (aV (.tmp 25) (aB Ku c!) a!)))) afN)))
def Ud:Rg:=(aB afQ (aB (aB afP (bK 0 (dI ahc lf))) (aB afM c!)))
def vM:Fun:=bC b! (kp [0,2,3,5,6,7,25]) Tryz.f54.ntmps [.tmp 2] Ud
theorem asY(a:V)(h:Hp):vM [a] h=aU b! [.tmp 2] (Ud (ss 0 a T.nil) h):=kR
theorem aos:aG b! aH 54 vM:=prX aO [] [] (aW amZ bF) Tryz.func54
def yS:=rC 2 .aQ
def yR:=r1 4 0 λa h=>aJ .eql .slice a .aQ h
def TN:=rC 2 .aQ
def GN:Rg:=λf h=>aA (alV 3 h) λa b=>gtO (ge 0 f) λc=>aA (cZ 3 1 8 a c b) λd i=>a! (ss 2 d f) i
def xE:Rg:=(aB yS (aB (aB yR (aV (.tmp 4) (aB TN c!) a!)) (aB GN c!)))
def xK:Fun:=bC b! (kp [0,2,4]) Tryz.f86.ntmps [.tmp 2] xE
theorem aiB(a:V)(h:Hp):xK [a] h=aU b! [.tmp 2] (xE (ss 0 a T.nil) h):=kR
theorem abE:aG b! aH 86 xK:=prX aO [] [] bF Tryz.func86
def yU:=rC 2 .aQ
def yT:=r1 4 0 λa h=>aJ .eql .slice a .aQ h
def TP:=rC 2 .aQ
def GR:Rg:=λf h=>aA (alV 55 h) λa b=>gtO (ge 0 f) λc=>aA (cZ 55 6 56 a c b) λd i=>a! (ss 2 d f) i
def xG:Rg:=(aB yU (aB (aB yT (aV (.tmp 4) (aB TP c!) a!)) (aB GR c!)))
def DT:Fun:=bC b! (kp [0,2,4]) Tryz.f53.ntmps [.tmp 2] xG
theorem aiC(a:V)(h:Hp):DT [a] h=aU b! [.tmp 2] (xG (ss 0 a T.nil) h):=kR
theorem aoV:aG b! aH 53 DT:=prX aO [] [] bF Tryz.func53
def oP:=rC 2 .aQ
def oO:=r1 4 0 λa h=>aJ .eql .slice a .aQ h
def BQ:=rC 2 .aQ
def BP:Rg:=λf h=>aA (alV 85 h) λa b=>gtO (ge 0 f) λc=>aA (cZ 85 4 32 a c b) λd i=>a! (ss 2 d f) i
def oh:Rg:=(aB oP (aB (aB oO (aV (.tmp 4) (aB BQ c!) a!)) (aB BP c!)))
def oz:Fun:=bC b! (kp [0,2,4]) Tryz.f422.ntmps [.tmp 2] oh
theorem MS(a:V)(h:Hp):oz [a] h=aU b! [.tmp 2] (oh (ss 0 a T.nil) h):=kR
theorem ale:aG b! aH 422 oz:=prX aO [] [] bF Tryz.func422
def su:=rC 2 .aQ
def rZ:=r1 4 0 λa h=>aJ .eql .slice a .aQ h
def Me:=rC 2 .aQ
def zX:Rg:=λf h=>aA (alV 106 h) λa b=>gtO (ge 0 f) λc=>aA (cZ 106 2 16 a c b) λd i=>a! (ss 2 d f) i
def qy:Rg:=(aB su (aB (aB rZ (aV (.tmp 4) (aB Me c!) a!)) (aB zX c!)))
def wY:Fun:=bC b! (kp [0,2,4]) Tryz.f100.ntmps [.tmp 2] qy
theorem abX(a:V)(h:Hp):wY [a] h=aU b! [.tmp 2] (qy (ss 0 a T.nil) h):=kR
theorem aiu:aG b! aH 100 wY:=prX aO [] [] bF Tryz.func100
def rY:=rC 2 .aQ
def rX:=r1 4 0 λa h=>aJ .eql .slice a .aQ h
def Md:=rC 2 .aQ
def zW:Rg:=λf h=>aA (alV 9 h) λa b=>gtO (ge 0 f) λc=>aA (cZ 9 1 16 a c b) λd i=>a! (ss 2 d f) i
def qx:Rg:=(aB rY (aB (aB rX (aV (.tmp 4) (aB Md c!) a!)) (aB zW c!)))
def qC:Fun:=bC b! (kp [0,2,4]) Tryz.f81.ntmps [.tmp 2] qx
theorem abW(a:V)(h:Hp):qC [a] h=aU b! [.tmp 2] (qx (ss 0 a T.nil) h):=kR
theorem Sr:aG b! aH 81 qC:=prX aO [] [] bF Tryz.func81
def BO:=rC 2 .aQ
def BN:Rg:=λf h=>gtO (ge 0 f) λa=>aA (aZ 2 a h) λb c=>aA (aJ .lss .none b (Y U 2) c) λd i=>a! (ss 8 d f) i
def Om:=rM 2 0
def Ol:=rC 3 (Y U 1)
def BM:Rg:=λf h=>gtO (ge 3 f) λa=>gtO (ge 0 f) λb=>aA (aZ 2 b h) λc d=>aA (aJ .lss .none a c d) λi j=>a! (ss 13 i f) j
def Oi:Rg:=λf h=>gtO (ge 0 f) λa=>gtO (ge 3 f) λb=>aA (bJ 1 a b (aI 0 h)) λc _=>aA (aF c (aI 0 h)) λd _=>gtO (ge 0 f) λi=>gtO (ge 3 f) λj=>aA (aJ .sub .none j (Y U 1) (aI 0 h)) λm _=>aA (bJ 1 i m (aI 0 h)) λn _=>aA (aF n (aI 0 h)) λo _=>aA (aJ .eql .none d o (aI 0 h)) λp _=>a! (ss 25 p f) (aI 0 h)
def Oj:=r1 3 3 λa h=>aJ .add .none a (Y U 1) h
def Mc:=rM 2 0
def aBq:Rg:=zz
def CO:Rg:=(aB (aB BM (aV (.tmp 13) a! (Out.ex 0))) (aB (bK 1 (aB Oi (aV (.tmp 25) zz a!))) Oj))
def sU:Rg:=(aB BO (aB (aB BN (aV (.tmp 8) (aB Om c!) a!)) (aB (aB Ol (bK 0 (dI CO lf))) (aB Mc c!))))
def ou:Fun:=bC b! (kp [0,2,3,4,5,8,13,25,32,44]) Tryz.f88.ntmps [.tmp 2] sU
theorem MR(a:V)(h:Hp):ou [a] h=aU b! [.tmp 2] (sU (ss 0 a T.nil) h):=kR
theorem Uh:aG b! aH 88 ou:=prX aO [7,8,9,11,12,13,10,14,15] [(6,[0,0,3,7,0,0,32,112,240,511],fM [0,16,32,51,64,80,96,112,131,144])] bF Tryz.func88
def GL:=rC 2 .aQ
def GK:Rg:=λf h=>gtO (ge 0 f) λa=>aA (aZ 2 a h) λb c=>aA (aJ .lss .none b (Y U 2) c) λd i=>a! (ss 8 d f) i
def GI:=rM 2 0
def ayP:Rg:=zz
def ayQ:Rg:=zz
def Ai:Rg:=(aB GL (aB (aB GK (aV (.tmp 8) (aB GI c!) a!)) zz))
def sZ:Fun:=bC b! (kp [0,2,3,4,5,8,13,25,32,44]) Tryz.f83.ntmps [.tmp 2] Ai
theorem XI(a:V)(h:Hp):sZ [a] h=aU b! [.tmp 2] (Ai (ss 0 a T.nil) h):=kR
theorem aee:aG b! aH 83 sZ:=prX aO [3,4,6,7,8,9,11,12,13,10,14,15,5,16] [] bF Tryz.func83
def agn:Rg:=λf h=>gtO (ge 0 f) λa=>aA (fO 55 a h) λb c=>a! (ss 3 (K false) (ss 2 b f)) c
def agm:Rg:=λf h=>gtO (ge 2 f) λa=>aA (aC 0 a h) λb c=>aA (aF b c) λd i=>gtO (ge 1 f) λj=>aA (aF j i) λm n=>aA (aJ .eql .none d m n) λo p=>a! (ss 3 o f) p
def adU:Rg:=(aB agn (aB agm c!))
def MP:Fun:=bC b! (kp [0,1,2,3]) Tryz.f169.ntmps [.tmp 3] adU
theorem as7(a b:V)(h:Hp):MP [a,b] h=aU b! [.tmp 3] (adU (ss 1 b (ss 0 a T.nil)) h):=kR
theorem aA2:aG b! aH 169 MP:=prX aO [] [] bF Tryz.func169
def agT:Rg:=λf h=>gtO (ge 0 f) λa=>aA (fO 55 a h) λb c=>a! (ss 3 (K false) (ss 2 b f)) c
def agS:Rg:=λf h=>gtO (ge 2 f) λa=>aA (aC 0 a h) λb c=>aA (aF b c) λd i=>gtO (ge 1 f) λj=>aA (aF j i) λm n=>aA (aJ .eql .none d m n) λo p=>a! (ss 3 o f) p
def ad2:Rg:=(aB agT (aB agS c!))
def MW:Fun:=bC b! (kp [0,1,2,3]) Tryz.f208.ntmps [.tmp 3] ad2
theorem atf(a b:V)(h:Hp):MW [a,b] h=aU b! [.tmp 3] (ad2 (ss 1 b (ss 0 a T.nil)) h):=kR
theorem aBb:aG b! aH 208 MW:=prX aO [] [] bF Tryz.func208
def afJ:Rg:=λf h=>gtO (ge 0 f) λa=>aA (fO 55 a h) λb c=>a! (ss 3 (K false) (ss 2 b f)) c
def afI:Rg:=λf h=>gtO (ge 2 f) λa=>aA (aC 0 a h) λb c=>aA (aF b c) λd i=>gtO (ge 1 f) λj=>aA (aF j i) λm n=>aA (aJ .eql .none d m n) λo p=>a! (ss 3 o f) p
def adP:Rg:=(aB afJ (aB afI c!))
def ML:Fun:=bC b! (kp [0,1,2,3]) Tryz.f290.ntmps [.tmp 3] adP
theorem asX(a b:V)(h:Hp):ML [a,b] h=aU b! [.tmp 3] (adP (ss 1 b (ss 0 a T.nil)) h):=kR
theorem aAY:aG b! aH 290 ML:=prX aO [] [] bF Tryz.func290
def TJ:Rg:=λf h=>gtO (ge 0 f) λa=>aA (fO 55 a h) λb c=>a! (ss 3 (K false) (ss 2 b f)) c
def TI:Rg:=λf h=>gtO (ge 2 f) λa=>aA (aC 0 a h) λb c=>aA (aF b c) λd i=>gtO (ge 1 f) λj=>aA (aF j i) λm n=>aA (aJ .eql .none d m n) λo p=>a! (ss 3 o f) p
def NM:Rg:=(aB TJ (aB TI c!))
def xI:Fun:=bC b! (kp [0,1,2,3]) Tryz.f301.ntmps [.tmp 3] NM
theorem aiz(a b:V)(h:Hp):xI [a,b] h=aU b! [.tmp 3] (NM (ss 1 b (ss 0 a T.nil)) h):=kR
theorem aoT:aG b! aH 301 xI:=prX aO [] [] bF Tryz.func301
def jT:FuncId->Option Fun:=tK [(169,MP),(208,MW),(290,ML),(301,xI)]
def IV:=rC 4 (Y U 0)
def IU:Rg:=λf h=>gtO (ge 0 f) λa=>aA (aZ 2 a h) λb c=>a! (ss 8 (Y U 0) (ss 7 b f)) c
def IQ:=r2 9 8 7 λa b h=>aJ .lss .none a b h
def IL:=rM 5 8
def IK:Rg:=λf h=>gtO (ge 1 f) λa=>gtO (ge 0 f) λb=>gtO (ge 5 f) λc=>aA (bJ 6 b c h) λd i=>aA (bT 6 d i) λj m=>aA (dK jT a [j] m) λn o=>a! (ss 16 n f) o
def IJ:=rM 4 5
def II:=r1 8 8 λa h=>aJ .add .none a (Y U 1) h
def IG:=rC 4 (Y U (-1))
def IY:Rg:=(aB IQ (aB (aV (.tmp 9) a! (Out.ex 0)) (aB (bK 1 (aB IL (aB IK (aV (.tmp 16) (aB IJ c!) a!)))) II)))
def uF:Rg:=(aB IV (aB (aB IU (bK 0 (dI IY lf))) (aB IG c!)))
def jU:Fun:=bC b! (kp [0,1,4,5,7,8,9,16]) Tryz.f168.ntmps [.tmp 4] uF
theorem Z7(a b:V)(h:Hp):jU [a,b] h=aU b! [.tmp 4] (uF (ss 1 b (ss 0 a T.nil)) h):=kR
theorem uG:aG b! aH 168 jU:=prX aO [] [] (aW aA2 (aW aBb (aW aAY (aW aoT bF)))) Tryz.func168
def akI:Rg:=λf h=>gtO (ge 1 f) λa=>aA (fO 3 a h) λb c=>a! (ss 4 (Y U 0) (ss 3 b f)) c
def akH:Rg:=λf h=>gtO (ge 0 f) λa=>aA (aN a h) λb c=>aA (aC 10 b c) λd i=>aA (aF d i) λj m=>gtO (ge 3 f) λn=>aA (eP (.func 169) [] [n] m) λo p=>aA (jU [j,o] p) λq r=>a! (ss 4 q f) r
def aim:Rg:=(aB akI (aB akH c!))
def Ea:Fun:=bC b! (kp [0,1,3,4]) Tryz.f89.ntmps [.tmp 4] aim
theorem aus(a b:V)(h:Hp):Ea [a,b] h=aU b! [.tmp 4] (aim (ss 1 b (ss 0 a T.nil)) h):=kR
theorem ZN:aG b! aH 89 Ea:=prX aO [] [] (aW uG bF) Tryz.func89
def ac3:=rC 4 (K false)
def ac2:Rg:=λf h=>gtO (ge 0 f) λa=>gtO (ge 1 f) λb=>aA (Ea [a,b] (aI 0 h)) λc d=>gtO (ge 0 f) λi=>aA (aN i d) λj _=>aA (aC 10 j d) λm _=>aA (aF m d) λn _=>chk (λh=>aF m h) n ( aA (bJ 6 n c d) λo _=>aA (aC 4 o d) λp _=>aA (aF p d) λq _=>gtO (ge 0 f) λr=>aA (aN r d) λs _=>aA (aC 0 s d) λt _=>aA (aC 5 t d) λu _=>aA (aF u d) λv _=>chk (λh=>aF u h) v ( aA (aJ .gtr .none q v d) λw _=>a! (ss 4 w f) d) 1 [(aI 0 h)]) 1 [(aI 0 h)]
def Zy:Rg:=(aB ac3 (aB ac2 c!))
def Ig:Fun:=bC b! (kp [0,1,4]) Tryz.f47.ntmps [.tmp 4] Zy
theorem aoX(a b:V)(h:Hp):Ig [a,b] h=aU b! [.tmp 4] (Zy (ss 1 b (ss 0 a T.nil)) h):=kR
theorem ayF:aG b! aH 47 Ig:=prX aO [] [(1,[0,1,3,7,0,0,48,127,255,511,0,1024,3072,7168,15360,32767,65535],fM [64,80,98,0,16,32,52,112,128,147,160,176,192,208,228,240,256])] (aW ZN bF) Tryz.func47
def WO:=rC 3 (K false)
def WN:Rg:=λf h=>gtO (ge 1 f) λa=>aA (aF a h) λb c=>gtO (ge 0 f) λd=>aA (Ea [b,d] c) λi j=>aA (aJ .lss .none i (Y U 0) j) λm n=>a! (ss 3 m f) n
def RX:Rg:=(aB WO (aB WN c!))
def Ap:Fun:=bC b! (kp [0,1,3]) Tryz.f102.ntmps [.tmp 3] RX
theorem alv(a b:V)(h:Hp):Ap [a,b] h=aU b! [.tmp 3] (RX (ss 1 b (ss 0 a T.nil)) h):=kR
theorem asN:aG b! aH 102 Ap:=prX aO [] [] (aW ZN bF) Tryz.func102
def oU:FuncId->Option Fun:=tK [(47,Ig),(102,Ap)]
def IE:=rC 4 (Y U 0)
def IC:Rg:=λf h=>gtO (ge 0 f) λa=>aA (aZ 2 a h) λb c=>a! (ss 8 (Y U 0) (ss 7 b f)) c
def IB:=r2 9 8 7 λa b h=>aJ .lss .none a b h
def IA:=rM 5 8
def Iz:Rg:=λf h=>gtO (ge 1 f) λa=>gtO (ge 0 f) λb=>gtO (ge 5 f) λc=>aA (bJ 1 b c h) λd i=>aA (aF d i) λj m=>aA (dK oU a [j] m) λn o=>a! (ss 16 n f) o
def Iy:=rM 4 5
def Iw:=r1 8 8 λa h=>aJ .add .none a (Y U 1) h
def Iu:=rC 4 (Y U (-1))
def IX:Rg:=(aB IB (aB (aV (.tmp 9) a! (Out.ex 0)) (aB (bK 1 (aB IA (aB Iz (aV (.tmp 16) (aB Iy c!) a!)))) Iw)))
def uD:Rg:=(aB IE (aB (aB IC (bK 0 (dI IX lf))) (aB Iu c!)))
def uH:Fun:=bC b! (kp [0,1,4,5,7,8,9,16]) Tryz.f103.ntmps [.tmp 4] uD
theorem Z5(a b:V)(h:Hp):uH [a,b] h=aU b! [.tmp 4] (uD (ss 1 b (ss 0 a T.nil)) h):=kR
theorem afd:aG b! aH 103 uH:=prX aO [] [] (aW ayF (aW asN bF)) Tryz.func103
def Dp:=rC 4 (K false)
def Dn:Rg:=λf h=>gtO (ge 0 f) λa=>gtO (ge 1 f) λb=>aA (uH [a,b] h) λc d=>aA (aJ .geq .none c (Y U 0) d) λi j=>a! (ss 4 i f) j
def wQ:Rg:=(aB Dp (aB Dn c!))
def jb:Fun:=bC b! (kp [0,1,4]) Tryz.f46.ntmps [.tmp 4] wQ
theorem Tc(a b:V)(h:Hp):jb [a,b] h=aU b! [.tmp 4] (wQ (ss 1 b (ss 0 a T.nil)) h):=kR
theorem H6:aG b! aH 46 jb:=prX aO [] [] (aW afd bF) Tryz.func46
def Dt:=rC 4 (K false)
def Dq:Rg:=λf h=>gtO (ge 0 f) λa=>gtO (ge 1 f) λb=>aA (jU [a,b] h) λc d=>aA (aJ .geq .none c (Y U 0) d) λi j=>a! (ss 4 i f) j
def wR:Rg:=(aB Dt (aB Dq c!))
def lI:Fun:=bC b! (kp [0,1,4]) Tryz.f190.ntmps [.tmp 4] wR
theorem Td(a b:V)(h:Hp):lI [a,b] h=aU b! [.tmp 4] (wR (ss 1 b (ss 0 a T.nil)) h):=kR
theorem ZP:aG b! aH 190 lI:=prX aO [] [] (aW uG bF) Tryz.func190
def TL:Rg:=λf h=>gtO (ge 0 f) λa=>aA (fO 40 a h) λb c=>a! (ss 3 (K false) (ss 2 b f)) c
def TK:Rg:=λf h=>gtO (ge 2 f) λa=>aA (aC 1 a h) λb c=>aA (aF b c) λd i=>gtO (ge 1 f) λj=>aA (aC 1 j i) λm n=>aA (aF m n) λo p=>aA (aJ .eql .none d o p) λq r=>a! (ss 3 q f) r
def NP:Rg:=(aB TL (aB TK c!))
def xJ:Fun:=bC b! (kp [0,1,2,3]) Tryz.f52.ntmps [.tmp 3] NP
theorem aiA(a b:V)(h:Hp):xJ [a,b] h=aU b! [.tmp 3] (NP (ss 1 b (ss 0 a T.nil)) h):=kR
theorem aoU:aG b! aH 52 xJ:=prX aO [] [] bF Tryz.func52
def adg:Rg:=λf h=>gtO (ge 0 f) λa=>aA (fO 40 a h) λb c=>a! (ss 3 (K false) (ss 2 b f)) c
def adf:Rg:=λf h=>gtO (ge 2 f) λa=>aA (aC 0 a h) λb c=>aA (aF b c) λd i=>gtO (ge 1 f) λj=>aA (aF j i) λm n=>aA (aJ .eql .none d m n) λo p=>a! (ss 3 o f) p
def ZB:Rg:=(aB adg (aB adf c!))
def Ih:Fun:=bC b! (kp [0,1,2,3]) Tryz.f77.ntmps [.tmp 3] ZB
theorem aoZ(a b:V)(h:Hp):Ih [a,b] h=aU b! [.tmp 3] (ZB (ss 1 b (ss 0 a T.nil)) h):=kR
theorem ayG:aG b! aH 77 Ih:=prX aO [] [] bF Tryz.func77
def Rl:Rg:=λf h=>gtO (ge 0 f) λa=>aA (fO 40 a h) λb c=>a! (ss 3 (K false) (ss 2 b f)) c
def Rk:Rg:=λf h=>gtO (ge 2 f) λa=>aA (aC 0 a h) λb c=>aA (aF b c) λd i=>gtO (ge 1 f) λj=>aA (aF j i) λm n=>aA (aJ .eql .none d m n) λo p=>a! (ss 3 o f) p
def JX:Rg:=(aB Rl (aB Rk c!))
def uT:Fun:=bC b! (kp [0,1,2,3]) Tryz.f222.ntmps [.tmp 3] JX
theorem afh(a b:V)(h:Hp):uT [a,b] h=aU b! [.tmp 3] (JX (ss 1 b (ss 0 a T.nil)) h):=kR
theorem am1:aG b! aH 222 uT:=prX aO [] [] bF Tryz.func222
def kK:FuncId->Option Fun:=tK [(52,xJ),(77,Ih),(222,uT)]
def Gt:=rC 4 (Y U 0)
def Gs:Rg:=λf h=>gtO (ge 0 f) λa=>aA (aZ 2 a h) λb c=>a! (ss 8 (Y U 0) (ss 7 b f)) c
def Gq:=r2 9 8 7 λa b h=>aJ .lss .none a b h
def Gp:=rM 5 8
def Gn:Rg:=λf h=>gtO (ge 1 f) λa=>gtO (ge 0 f) λb=>gtO (ge 5 f) λc=>aA (bJ 8 b c h) λd i=>aA (bT 8 d i) λj m=>aA (dK kK a [j] m) λn o=>a! (ss 16 n f) o
def Gm:=rM 4 5
def Gl:=r1 8 8 λa h=>aJ .add .none a (Y U 1) h
def Gj:=rC 4 (Y U (-1))
def H8:Rg:=(aB Gq (aB (aV (.tmp 9) a! (Out.ex 0)) (aB (bK 1 (aB Gp (aB Gn (aV (.tmp 16) (aB Gm c!) a!)))) Gl)))
def sS:Rg:=(aB Gt (aB (aB Gs (bK 0 (dI H8 lf))) (aB Gj c!)))
def kM:Fun:=bC b! (kp [0,1,4,5,7,8,9,16]) Tryz.f76.ntmps [.tmp 4] sS
theorem XG(a b:V)(h:Hp):kM [a,b] h=aU b! [.tmp 4] (sS (ss 1 b (ss 0 a T.nil)) h):=kR
theorem Ak:aG b! aH 76 kM:=prX aO [] [] (aW aoU (aW ayG (aW am1 bF))) Tryz.func76
def BH:=rC 4 (K false)
def BG:Rg:=λf h=>gtO (ge 0 f) λa=>gtO (ge 1 f) λb=>aA (kM [a,b] h) λc d=>aA (aJ .geq .none c (Y U 0) d) λi j=>a! (ss 4 i f) j
def uS:Rg:=(aB BH (aB BG c!))
def oq:Fun:=bC b! (kp [0,1,4]) Tryz.f51.ntmps [.tmp 4] uS
theorem SL(a b:V)(h:Hp):oq [a,b] h=aU b! [.tmp 4] (uS (ss 1 b (ss 0 a T.nil)) h):=kR
theorem XD:aG b! aH 51 oq:=prX aO [] [] (aW Ak bF) Tryz.func51
def adB:=rC 2 (K false)
def adA:Rg:=λf h=>gtO (ge 0 f) λa=>aA (vM [a] h) λb c=>ifB b (aA (aZ 1 a c) λd i=>aA (aJ .leq .none d (Y U 64) i) λj m=>ifB j (aA (Dy [a] m) λn o=>aA (aJ .eql .none n a o) λp q=>a! (ss 2 p f) q) (a! (ss 2 (K false) f) m)) (a! (ss 2 (K false) f) c)
def ZK:Rg:=(aB adB (aB adA c!))
def O7:Fun:=bC b! (kp [0,2]) Tryz.f80.ntmps [.tmp 2] ZK
theorem ao4(a:V)(h:Hp):O7 [a] h=aU b! [.tmp 2] (ZK (ss 0 a T.nil) h):=kR
theorem ayK:aG b! aH 80 O7:=prX aO [] [] (aW aos (aW alk bF)) Tryz.func80
def adD:=rC 2 (K false)
def adC:Rg:=λf h=>gtO (ge 0 f) λa=>aA (O7 [a] h) λb c=>aA (oUn .not b c) λd i=>a! (ss 2 d f) i
def ZL:Rg:=(aB adD (aB adC c!))
def O8:Fun:=bC b! (kp [0,2]) Tryz.f79.ntmps [.tmp 2] ZL
theorem ao5(a:V)(h:Hp):O8 [a] h=aU b! [.tmp 2] (ZL (ss 0 a T.nil) h):=kR
theorem ayL:aG b! aH 79 O8:=prX aO [] [] (aW ayK bF) Tryz.func79
def Lr:=rC 4 (Y U 0)
def Lm:Rg:=λf h=>gtO (ge 0 f) λa=>aA (aZ 2 a h) λb c=>a! (ss 8 (Y U 0) (ss 7 b f)) c
def Ll:=r2 9 8 7 λa b h=>aJ .lss .none a b h
def Lh:=rM 5 8
def Le:Rg:=λf h=>gtO (ge 1 f) λa=>gtO (ge 0 f) λb=>gtO (ge 5 f) λc=>aA (bJ 1 b c h) λd i=>aA (aF d i) λj m=>aA (aJ .eql .none a j m) λn o=>a! (ss 16 n f) o
def Ld:=rM 4 5
def Lc:=r1 8 8 λa h=>aJ .add .none a (Y U 1) h
def La:=rC 4 (Y U (-1))
def MI:Rg:=(aB Ll (aB (aV (.tmp 9) a! (Out.ex 0)) (aB (bK 1 (aB Lh (aB Le (aV (.tmp 16) (aB Ld c!) a!)))) Lc)))
def wO:Rg:=(aB Lr (aB (aB Lm (bK 0 (dI MI lf))) (aB La c!)))
def wV:Fun:=bC b! (kp [0,1,4,5,7,8,9,16]) Tryz.f85.ntmps [.tmp 4] wO
theorem abT(a b:V)(h:Hp):wV [a,b] h=aU b! [.tmp 4] (wO (ss 1 b (ss 0 a T.nil)) h):=kR
theorem air:aG b! aH 85 wV:=prX aO [] [] bF Tryz.func85
def ES:=rC 4 (K false)
def ER:Rg:=λf h=>gtO (ge 0 f) λa=>gtO (ge 1 f) λb=>aA (wV [a,b] h) λc d=>aA (aJ .geq .none c (Y U 0) d) λi j=>a! (ss 4 i f) j
def yc:Rg:=(aB ES (aB ER c!))
def jZ:Fun:=bC b! (kp [0,1,4]) Tryz.f36.ntmps [.tmp 4] yc
theorem VI(a b:V)(h:Hp):jZ [a,b] h=aU b! [.tmp 4] (yc (ss 1 b (ss 0 a T.nil)) h):=kR
theorem IW:aG b! aH 36 jZ:=prX aO [] [] (aW air bF) Tryz.func36
def pz:FuncId->Option Fun:=tK [(79,O8)]
def Dl:=rC 4 (Y U 0)
def Dk:Rg:=λf h=>gtO (ge 0 f) λa=>aA (aZ 2 a h) λb c=>a! (ss 8 (Y U 0) (ss 7 b f)) c
def Dj:=r2 9 8 7 λa b h=>aJ .lss .none a b h
def Di:=rM 5 8
def Dh:Rg:=λf h=>gtO (ge 1 f) λa=>gtO (ge 0 f) λb=>gtO (ge 5 f) λc=>aA (bJ 1 b c h) λd i=>aA (aF d i) λj m=>aA (dK pz a [j] m) λn o=>a! (ss 16 n f) o
def Dc:=rM 4 5
def C9:=r1 8 8 λa h=>aJ .add .none a (Y U 1) h
def CZ:=rC 4 (Y U (-1))
def Dv:Rg:=(aB Dj (aB (aV (.tmp 9) a! (Out.ex 0)) (aB (bK 1 (aB Di (aB Dh (aV (.tmp 16) (aB Dc c!) a!)))) C9)))
def pF:Rg:=(aB Dl (aB (aB Dk (bK 0 (dI Dv lf))) (aB CZ c!)))
def pG:Fun:=bC b! (kp [0,1,4,5,7,8,9,16]) Tryz.f163.ntmps [.tmp 4] pF
theorem SY(a b:V)(h:Hp):pG [a,b] h=aU b! [.tmp 4] (pF (ss 1 b (ss 0 a T.nil)) h):=kR
theorem ZO:aG b! aH 163 pG:=prX aO [] [] (aW ayL bF) Tryz.func163
def yQ:=rC 4 (K false)
def yP:Rg:=λf h=>gtO (ge 0 f) λa=>gtO (ge 1 f) λb=>aA (pG [a,b] h) λc d=>aA (aJ .geq .none c (Y U 0) d) λi j=>a! (ss 4 i f) j
def qV:Rg:=(aB yQ (aB yP c!))
def mM:Fun:=bC b! (kp [0,1,4]) Tryz.f78.ntmps [.tmp 4] qV
theorem NV(a b:V)(h:Hp):mM [a,b] h=aU b! [.tmp 4] (qV (ss 1 b (ss 0 a T.nil)) h):=kR
theorem SX:aG b! aH 78 mM:=prX aO [] [] (aW ZO bF) Tryz.func78
def LK:Rg:=λf h=>gtO (ge 1 f) λa=>aA (fO 106 a h) λb c=>a! (ss 4 (Y U 0) (ss 3 b f)) c
def LJ:Rg:=λf h=>gtO (ge 0 f) λa=>aA (aZ 2 a h) λb c=>a! (ss 8 (Y U 0) (ss 7 b f)) c
def LH:=r2 9 8 7 λa b h=>aJ .lss .none a b h
def LG:=rM 5 8
def LD:Rg:=λf h=>gtO (ge 3 f) λa=>aA (bT 2 a (aI 0 h)) λb _=>gtO (ge 0 f) λc=>gtO (ge 5 f) λd=>aA (bJ 2 c d (aI 0 h)) λi _=>aA (bT 2 i (aI 0 h)) λj _=>aA (aeG .eql [((.int U),0),((.int U),1)] b j (aI 0 h)) λm _=>a! (ss 16 m f) (aI 0 h)
def LC:=rM 4 5
def Lu:=r1 8 8 λa h=>aJ .add .none a (Y U 1) h
def Ls:=rC 4 (Y U (-1))
def MJ:Rg:=(aB LH (aB (aV (.tmp 9) a! (Out.ex 0)) (aB (bK 1 (aB LG (aB LD (aV (.tmp 16) (aB LC c!) a!)))) Lu)))
def wP:Rg:=(aB LK (aB (aB LJ (bK 0 (dI MJ lf))) (aB Ls c!)))
def wW:Fun:=bC b! (kp [0,1,3,4,5,7,8,9,16]) Tryz.f324.ntmps [.tmp 4] wP
theorem abU(a b:V)(h:Hp):wW [a,b] h=aU b! [.tmp 4] (wP (ss 1 b (ss 0 a T.nil)) h):=kR
theorem ais:aG b! aH 324 wW:=prX aO [] [(4,[0,0,0,6,14,31],fM [3,16,32,48,67,80])] bF Tryz.func324
def EU:Rg:=λf h=>gtO (ge 1 f) λa=>aA (fO 106 a h) λb c=>a! (ss 4 (K false) (ss 3 b f)) c
def ET:Rg:=λf h=>gtO (ge 0 f) λa=>gtO (ge 3 f) λb=>aA (bT 2 b h) λc d=>aA (wW [a,c] d) λi j=>aA (aJ .geq .none i (Y U 0) j) λm n=>a! (ss 4 m f) n
def yg:Rg:=(aB EU (aB ET c!))
def ku:Fun:=bC b! (kp [0,1,3,4]) Tryz.f223.ntmps [.tmp 4] yg
theorem VJ(a b:V)(h:Hp):ku [a,b] h=aU b! [.tmp 4] (yg (ss 1 b (ss 0 a T.nil)) h):=kR
theorem abS:aG b! aH 223 ku:=prX aO [] [] (aW ais bF) Tryz.func223
def Ny:Rg:=λf h=>gtO (ge 1 f) λa=>aA (fO 200 a h) λb c=>a! (ss 4 (Y U 0) (ss 3 b f)) c
def Nv:Rg:=λf h=>gtO (ge 0 f) λa=>aA (aN a h) λb c=>aA (aC 4 b c) λd i=>aA (aF d i) λj m=>a! (ss 8 j f) m
def abD:Rg:=λf h=>gtO (ge 3 f) λa=>aA (aC 1 a h) λb c=>aA (aF b c) λd i=>a! (ss 4 d f) i
def abC:Rg:=λf h=>gtO (ge 3 f) λa=>aA (aC 0 a h) λb c=>aA (aF b c) λd i=>a! (ss 4 d f) i
def Ky:Rg:=(aB Ny (aB (aB Nv (aV (.tmp 8) (aB abD c!) a!)) (aB abC c!)))
def KI:Fun:=bC b! (kp [0,1,3,4,8]) Tryz.f141.ntmps [.tmp 4] Ky
theorem anh(a b:V)(h:Hp):KI [a,b] h=aU b! [.tmp 4] (Ky (ss 1 b (ss 0 a T.nil)) h):=kR
theorem auk:aG b! aH 141 KI:=prX aO [] [] bF Tryz.func141
def abu:Rg:=λf h=>gtO (ge 0 f) λa=>aA (fO 200 a h) λb c=>a! (ss 2 (K false) (ss 1 b f)) c
def abt:Rg:=λf h=>gtO (ge 1 f) λa=>aA (aC 2 a h) λb c=>aA (aC 4 b c) λd i=>aA (aF d i) λj m=>aA (jZ [j,(H [36,100,101,108,101,116,101,100])] m) λn o=>aA (oUn .not n o) λp q=>a! (ss 2 p f) q
def U9:Rg:=(aB abu (aB abt c!))
def uj:Fun:=bC b! (kp [0,1,2]) Tryz.f217.ntmps [.tmp 2] U9
theorem anf(a:V)(h:Hp):uj [a] h=aU b! [.tmp 2] (U9 (ss 0 a T.nil) h):=kR
theorem ag9:aG b! aH 217 uj:=prX aO [] [] (aW IW bF) Tryz.func217
def Y1:Rg:=λf h=>gtO (ge 0 f) λa=>aA (fO 98 a h) λb c=>a! (ss 3 (K false) (ss 2 b f)) c
def YZ:Rg:=λf h=>gtO (ge 1 f) λa=>aA (aF a h) λb c=>gtO (ge 2 f) λd=>aA (aC 0 d c) λi j=>aA (aF i j) λm n=>aA (aJ .geq .none b m n) λo p=>ifB o (aA (aF a p) λq r=>aA (aC 1 d r) λs t=>aA (aF s t) λu v=>aA (aJ .leq .none q u v) λw x=>a! (ss 3 w f) x) (a! (ss 3 (K false) f) p)
def ZF:Rg:=(aB Y1 (aB YZ c!))
def SI:Fun:=bC b! (kp [0,1,2,3]) Tryz.f329.ntmps [.tmp 3] ZF
theorem aut(a b:V)(h:Hp):SI [a,b] h=aU b! [.tmp 3] (ZF (ss 1 b (ss 0 a T.nil)) h):=kR
theorem aDs:aG b! aH 329 SI:=prX aO [] [] bF Tryz.func329
def qH:FuncId->Option Fun:=tK [(329,SI)]
def EQ:=rC 4 (Y U 0)
def EP:Rg:=λf h=>gtO (ge 0 f) λa=>aA (aZ 2 a h) λb c=>a! (ss 8 (Y U 0) (ss 7 b f)) c
def EO:=r2 9 8 7 λa b h=>aJ .lss .none a b h
def EN:=rM 5 8
def EM:Rg:=λf h=>gtO (ge 1 f) λa=>gtO (ge 0 f) λb=>gtO (ge 5 f) λc=>aA (bJ 2 b c h) λd i=>aA (bT 2 d i) λj m=>aA (dK qH a [j] m) λn o=>a! (ss 16 n f) o
def EL:=rM 4 5
def EK:=r1 8 8 λa h=>aJ .add .none a (Y U 1) h
def EJ:=rC 4 (Y U (-1))
def EY:Rg:=(aB EO (aB (aV (.tmp 9) a! (Out.ex 0)) (aB (bK 1 (aB EN (aB EM (aV (.tmp 16) (aB EL c!) a!)))) EK)))
def qJ:Rg:=(aB EQ (aB (aB EP (bK 0 (dI EY lf))) (aB EJ c!)))
def qK:Fun:=bC b! (kp [0,1,4,5,7,8,9,16]) Tryz.f398.ntmps [.tmp 4] qJ
theorem VH(a b:V)(h:Hp):qK [a,b] h=aU b! [.tmp 4] (qJ (ss 1 b (ss 0 a T.nil)) h):=kR
theorem abR:aG b! aH 398 qK:=prX aO [] [] (aW aDs bF) Tryz.func398
def zV:=rC 4 (K false)
def zU:Rg:=λf h=>gtO (ge 0 f) λa=>gtO (ge 1 f) λb=>aA (qK [a,b] h) λc d=>aA (aJ .geq .none c (Y U 0) d) λi j=>a! (ss 4 i f) j
def ug:Rg:=(aB zV (aB zU c!))
def nM:Fun:=bC b! (kp [0,1,4]) Tryz.f328.ntmps [.tmp 4] ug
theorem O5(a b:V)(h:Hp):nM [a,b] h=aU b! [.tmp 4] (ug (ss 1 b (ss 0 a T.nil)) h):=kR
theorem VE:aG b! aH 328 nM:=prX aO [] [] (aW abR bF) Tryz.func328
def an9:Rg:=λf h=>gtO (ge 1 f) λa=>aA (fO 3 a h) λb c=>a! (ss 4 (K false) (ss 3 b f)) c
def an8:Rg:=λf h=>gtO (ge 0 f) λa=>gtO (ge 3 f) λb=>aA (eP (.func 329) [] [b] h) λc d=>aA (nM [a,c] d) λi j=>a! (ss 4 i f) j
def amW:Rg:=(aB an9 (aB an8 c!))
def ae4:Fun:=bC b! (kp [0,1,3,4]) Tryz.f226.ntmps [.tmp 4] amW
theorem ayR(a b:V)(h:Hp):ae4 [a,b] h=aU b! [.tmp 4] (amW (ss 1 b (ss 0 a T.nil)) h):=kR
theorem aHK:aG b! aH 226 ae4:=prX aO [] [] (aW VE bF) Tryz.func226
def agx:Rg:=λf h=>gtO (ge 0 f) λa=>aA (fO 200 a h) λb c=>a! (ss 4 (K false) (ss 3 b f)) c
def agw:Rg:=λf h=>gtO (ge 2 f) λa=>aA (aF a (aI 0 h)) λb _=>gtO (ge 3 f) λc=>aA (bT 10 c (aI 0 h)) λd _=>aA (KI [b,d] (aI 0 h)) λi j=>gtO (ge 1 f) λm=>aA (aF m j) λn _=>chk (λh=>aF m h) n ( aA (ae4 [n,i] j) λo p=>aA (oUn .not o p) λq _=>a! (ss 4 q f) p) 1 [(aI 0 h)]
def adX:Rg:=(aB agx (aB agw c!))
def Ar:Fun:=bC b! (kp [0,1,2,3,4]) Tryz.f225.ntmps [.tmp 4] adX
theorem ata(a b c:V)(h:Hp):Ar [a,b,c] h=aU b! [.tmp 4] (adX (ss 2 c (ss 1 b (ss 0 a T.nil))) h):=kR
theorem aov:aG b! aH 225 Ar:=prX aO [] [(1,[0,0,0,6,15,31,63],fM [19,35,50,4,66,80,96])] (aW auk (aW aHK bF)) Tryz.func225
def nY:FuncId->Option Fun:=tK [(217,uj),(225,Ar)]
def BF:=rC 4 (Y U 0)
def BD:Rg:=λf h=>gtO (ge 0 f) λa=>aA (aZ 2 a h) λb c=>a! (ss 8 (Y U 0) (ss 7 b f)) c
def BA:=r2 9 8 7 λa b h=>aJ .lss .none a b h
def Bz:=rM 5 8
def Bv:Rg:=λf h=>gtO (ge 1 f) λa=>gtO (ge 0 f) λb=>gtO (ge 5 f) λc=>aA (bJ 10 b c h) λd i=>aA (bT 10 d i) λj m=>aA (dK nY a [j] m) λn o=>a! (ss 16 n f) o
def Bq:=rM 4 5
def Bo:=r1 8 8 λa h=>aJ .add .none a (Y U 1) h
def Bl:=rC 4 (Y U (-1))
def BI:Rg:=(aB BA (aB (aV (.tmp 9) a! (Out.ex 0)) (aB (bK 1 (aB Bz (aB Bv (aV (.tmp 16) (aB Bq c!) a!)))) Bo)))
def nZ:Rg:=(aB BF (aB (aB BD (bK 0 (dI BI lf))) (aB Bl c!)))
def kL:Fun:=bC b! (kp [0,1,4,5,7,8,9,16]) Tryz.f234.ntmps [.tmp 4] nZ
theorem SK(a b:V)(h:Hp):kL [a,b] h=aU b! [.tmp 4] (nZ (ss 1 b (ss 0 a T.nil)) h):=kR
theorem XC:aG b! aH 234 kL:=prX aO [] [] (aW ag9 (aW aov bF)) Tryz.func234
def FX:Rg:=λf h=>gtO (ge 0 f) λa=>aA (fO 250 a h) λb c=>a! (ss 3 (K false) (ss 2 b f)) c
def FW(fr:F)(h:Hp):Out:=
 gtO (ge 2 fr) λa=>aA (aC 0 a h) λb c=>
 aA (aF b c) λd i=>
 gtO (ge 1 fr) λj=>aA (aC 0 j i) λm n=>
 aA (aF m n) λo p=>
 aA (aJ .eql .none d o p) λq r=>
 ifB q (aA (aC 1 a r) λs t=>
 aA (aC 0 s t) λu v=>
 aA (aF u v) λw x=>
 aA (aC 1 j x) λy z=>
 aA (aF y z) λe f=>
 aA (aJ .eql .none w e f) λg k=>
 a! (ss 3 g fr) k) (a! (ss 3 (K false) fr) r)
def DN:Rg:=(aB FX (aB FW c!))
def xH:Fun:=bC b! (kp [0,1,2,3]) Tryz.f178.ntmps [.tmp 3] DN
theorem aiy(a b:V)(h:Hp):xH [a,b] h=aU b! [.tmp 3] (DN (ss 1 b (ss 0 a T.nil)) h):=kR
theorem aoS:aG b! aH 178 xH:=prX aO [] [] bF Tryz.func178
def x9:FuncId->Option Fun:=tK [(178,xH)]
def EI:=rC 4 (Y U 0)
def EH:Rg:=λf h=>gtO (ge 0 f) λa=>aA (aZ 2 a h) λb c=>a! (ss 8 (Y U 0) (ss 7 b f)) c
def EG:=r2 9 8 7 λa b h=>aJ .lss .none a b h
def EF:=rM 5 8
def ED:Rg:=λf h=>gtO (ge 1 f) λa=>gtO (ge 0 f) λb=>gtO (ge 5 f) λc=>aA (bJ 9 b c h) λd i=>aA (bT 9 d i) λj m=>aA (dK x9 a [j] m) λn o=>a! (ss 16 n f) o
def EC:=rM 4 5
def Ez:=r1 8 8 λa h=>aJ .add .none a (Y U 1) h
def Ey:=rC 4 (Y U (-1))
def EX:Rg:=(aB EG (aB (aV (.tmp 9) a! (Out.ex 0)) (aB (bK 1 (aB EF (aB ED (aV (.tmp 16) (aB EC c!) a!)))) Ez)))
def qI:Rg:=(aB EI (aB (aB EH (bK 0 (dI EX lf))) (aB Ey c!)))
def mV:Fun:=bC b! (kp [0,1,4,5,7,8,9,16]) Tryz.f177.ntmps [.tmp 4] qI
theorem VG(a b:V)(h:Hp):mV [a,b] h=aU b! [.tmp 4] (qI (ss 1 b (ss 0 a T.nil)) h):=kR
theorem abQ:aG b! aH 177 mV:=prX aO [] [] (aW aoS bF) Tryz.func177
def Oh:=rC 6 .aQ
def Og:Rg:=λf h=>gtO (ge 0 f) λa=>gtO (ge 1 f) λb=>gtO (ge 2 f) λc=>aA (aZ 2 a h) λd i=>aA (eY 8 a (some b) (some c) (some d) i) λj m=>a! f m
def Oe:=r2 16 1 2 λa b h=>aJ .eql .none a b h
def Oa:=r1 7 0 λa h=>aZ 2 a h
def N8:Rg:=λf h=>gtO (ge 0 f) λa=>gtO (ge 1 f) λb=>aA (eY 8 a none (some b) none (aI 0 h)) λc _=>gtO (ge 0 f) λd=>gtO (ge 2 f) λi=>aA (eY 8 d (some i) none none (aI 0 h)) λj _=>aA (cZ 40 8 104 c j (aI 0 h)) λm n=>a! (ss 0 m f) n
def N7:Rg:=λf h=>gtO (ge 0 f) λa=>aA (aZ 2 a h) λb c=>gtO (ge 7 f) λd=>aA (Ej 8 a b d c) λi j=>aA (KT [(Y U 0),(Y U 0),(H []),(Y U 0),.aQ,.aQ,(Y U 0),(Y U 0)] i j) λ_ m=>a! f m
def NZ:=rM 6 0
def G6:Rg:=(aB Oh (aB Og (aB (aB Oe (aV (.tmp 16) zz a!)) (aB Oa (aB N8 (aB N7 (aB NZ c!)))))))
def y8:Fun:=bC b! (kp [0,1,2,6,7,16]) Tryz.f50.ntmps [.tmp 6] G6
theorem aei(a b c:V)(h:Hp):y8 [a,b,c] h=aU b! [.tmp 6] (G6 (ss 2 c (ss 1 b (ss 0 a T.nil))) h):=kR
theorem ald:aG b! aH 50 y8:=prX aO [3] [(5,[0,0,3,0,0,24,63,127],fM [0,16,32,48,64,80,98,112])] bF Tryz.func50
def GH:=rC 6 .aQ
def Gz:Rg:=λf h=>gtO (ge 0 f) λa=>gtO (ge 1 f) λb=>gtO (ge 2 f) λc=>aA (aZ 2 a h) λd i=>aA (eY 3 a (some b) (some c) (some d) i) λj m=>a! f m
def Gy:=r2 16 1 2 λa b h=>aJ .eql .none a b h
def Gx:=r1 7 0 λa h=>aZ 2 a h
def Gw:Rg:=λf h=>gtO (ge 0 f) λa=>gtO (ge 1 f) λb=>aA (eY 3 a none (some b) none (aI 0 h)) λc _=>gtO (ge 0 f) λd=>gtO (ge 2 f) λi=>aA (eY 3 d (some i) none none (aI 0 h)) λj _=>aA (cZ 248 3 24 c j (aI 0 h)) λm n=>a! (ss 0 m f) n
def Gv:Rg:=λf h=>gtO (ge 0 f) λa=>aA (aZ 2 a h) λb c=>gtO (ge 7 f) λd=>aA (Ej 3 a b d c) λi j=>aA (KT [(Y U 0),(Y U 0),.bP] i j) λ_ m=>a! f m
def Gu:=rM 6 0
def Ah:Rg:=(aB GH (aB Gz (aB (aB Gy (aV (.tmp 16) zz a!)) (aB Gx (aB Gw (aB Gv (aB Gu c!)))))))
def kN:Fun:=bC b! (kp [0,1,2,6,7,16]) Tryz.f179.ntmps [.tmp 6] Ah
theorem XH(a b c:V)(h:Hp):kN [a,b,c] h=aU b! [.tmp 6] (Ah (ss 2 c (ss 1 b (ss 0 a T.nil))) h):=kR
theorem aed:aG b! aH 179 kN:=prX aO [3] [(5,[0,0,3,0,0,24,63,127],fM [0,16,32,48,64,80,98,112])] bF Tryz.func179
def uf:FuncId->Option Fun:=tK [(234,kL),(217,uj),(225,Ar)]
def qm:=rC 4 .aQ
def ql:=r2 5 0 1 λa b h=>kL [a,b] h
def qj:=r1 12 5 λa h=>aJ .eql .none a (Y U (-1)) h
def zT:=rM 4 0
def zS:=r1 6 5 λa h=>aJ .add .none a (Y U 1) h
def lq:Rg:=λf h=>gtO (ge 6 f) λa=>gtO (ge 0 f) λb=>aA (aZ 2 b h) λc d=>aA (aJ .lss .none a c d) λi j=>a! (ss 19 i f) j
def qh:Rg:=λf h=>gtO (ge 0 f) λa=>gtO (ge 6 f) λb=>aA (bJ 10 a b h) λc d=>aA (bT 10 c d) λi j=>aA (fC 200 [(Y U 0),(Y U 0),(Y U 0),(Y U 0),(H []),(Y U 0),.aQ,.aQ,(Y U 0),(Y U 0)] j) λm n=>aA (aT 10 m i n) λ_ o=>a! (ss 7 m f) o
def qg:Rg:=λf h=>gtO (ge 1 f) λa=>gtO (ge 7 f) λb=>aA (bT 10 b h) λc d=>aA (dK uf a [c] d) λi j=>aA (oUn .not i j) λm n=>a! (ss 29 m f) n
def zQ:Rg:=λf h=>gtO (ge 0 f) λa=>gtO (ge 5 f) λb=>gtO (ge 7 f) λc=>aA (bT 10 c h) λd i=>aA (bJ 10 a b i) λj m=>aA (aT 10 j d m) λ_ n=>a! f n
def yO:=r1 5 5 λa h=>aJ .add .none a (Y U 1) h
def qi:=r1 6 6 λa h=>aJ .add .none a (Y U 1) h
def yN:Rg:=λf h=>gtO (ge 0 f) λa=>gtO (ge 5 f) λb=>aA (eY 10 a (some b) none none h) λc d=>aA (KT [(Y U 0),(Y U 0),(Y U 0),(Y U 0),(H []),(Y U 0),.aQ,.aQ,(Y U 0),(Y U 0)] c d) λ_ i=>a! f i
def yM:Rg:=λf h=>gtO (ge 0 f) λa=>gtO (ge 5 f) λb=>aA (eY 10 a none (some b) none h) λc d=>a! (ss 4 c f) d
def lF:Rg:=(aB (aB lq (aV (.tmp 19) a! (Out.ex 0))) (aB (bK 1 (aB qh (aB qg (aV (.tmp 29) (aB zQ yO) a!)))) qi))
def kF:Rg:=(aB qm (aB ql (aB (aB qj (aV (.tmp 12) (aB zT c!) a!)) (aB (aB zS (bK 0 (dI lF lf))) (aB yN (aB yM c!))))))
def jg:Fun:=bC b! (kp [0,1,4,5,6,7,12,19,29]) Tryz.f144.ntmps [.tmp 4] kF
theorem y9(a b:V)(h:Hp):jg [a,b] h=aU b! [.tmp 4] (kF (ss 1 b (ss 0 a T.nil)) h):=kR
theorem Du:aG b! aH 144 jg:=prX aO [] [] (aW XC (aW ag9 (aW aov bF))) Tryz.func144
def zO:=rC 4 (K false)
def zN:Rg:=λf h=>gtO (ge 0 f) λa=>aA (aZ 2 a h) λb c=>gtO (ge 1 f) λd=>aA (aZ 2 d c) λi j=>aA (aJ .neq .none b i j) λm n=>a! (ss 10 m f) n
def LZ:=rC 4 (K false)
def LY:Rg:=λf h=>gtO (ge 0 f) λa=>aA (aZ 2 a h) λb c=>a! (ss 13 (Y U 0) (ss 12 b f)) c
def LX:=r2 14 13 12 λa b h=>aJ .lss .none a b h
def LW:=rM 5 13
def LV:Rg:=λf h=>gtO (ge 0 f) λa=>gtO (ge 5 f) λb=>aA (bJ 1 a b (aI 0 h)) λc _=>aA (aF c (aI 0 h)) λd _=>gtO (ge 1 f) λi=>gtO (ge 5 f) λj=>aA (bJ 1 i j (aI 0 h)) λm _=>aA (aF m (aI 0 h)) λn _=>aA (aJ .neq .none d n (aI 0 h)) λo _=>a! (ss 24 o f) (aI 0 h)
def LU:=rC 4 (K false)
def LQ:=r1 13 13 λa h=>aJ .add .none a (Y U 1) h
def LP:=rC 4 (K true)
def MK:Rg:=(aB LX (aB (aV (.tmp 14) a! (Out.ex 0)) (aB (bK 1 (aB LW (aB LV (aV (.tmp 24) (aB LU c!) a!)))) LQ)))
def qp:Rg:=(aB zO (aB (aB zN (aV (.tmp 10) (aB LZ c!) a!)) (aB (aB LY (bK 0 (dI MK lf))) (aB LP c!))))
def wX:Fun:=bC b! (kp [0,1,4,5,10,12,13,14,24]) Tryz.f33.ntmps [.tmp 4] qp
theorem abV(a b:V)(h:Hp):wX [a,b] h=aU b! [.tmp 4] (qp (ss 1 b (ss 0 a T.nil)) h):=kR
theorem ait:aG b! aH 33 wX:=prX aO [] [(6,[0,0,3,7,0,0,48,112,255],fM [0,16,32,51,64,80,96,115,128])] bF Tryz.func33
def adt:=rC 2 (Y U 0)
def ads:=r1 4 0 λa h=>aJ .geq .none a (Y .u64 4294967296) h
def adr:=r1 8 0 λa h=>aJ .geq .none a (Y .u64 65536) h
def adq:=r1 14 0 λa h=>aJ .geq .none a (Y .u64 256) h
def abf:Rg:=λf h=>gtO (ge 2 f) λa=>gtO (ge 0 f) λb=>aA (kT .u8 b h) λc d=>aA (mX (H [0,1,2,2,3,3,3,3,4,4,4,4,4,4,4,4,5,5,5,5,5,5,5,5,5,5,5,5,5,5,5,5,6,6,6,6,6,6,6,6,6,6,6,6,6,6,6,6,6,6,6,6,6,6,6,6,6,6,6,6,6,6,6,6,7,7,7,7,7,7,7,7,7,7,7,7,7,7,7,7,7,7,7,7,7,7,7,7,7,7,7,7,7,7,7,7,7,7,7,7,7,7,7,7,7,7,7,7,7,7,7,7,7,7,7,7,7,7,7,7,7,7,7,7,7,7,7,7,8,8,8,8,8,8,8,8,8,8,8,8,8,8,8,8,8,8,8,8,8,8,8,8,8,8,8,8,8,8,8,8,8,8,8,8,8,8,8,8,8,8,8,8,8,8,8,8,8,8,8,8,8,8,8,8,8,8,8,8,8,8,8,8,8,8,8,8,8,8,8,8,8,8,8,8,8,8,8,8,8,8,8,8,8,8,8,8,8,8,8,8,8,8,8,8,8,8,8,8,8,8,8,8,8,8,8,8,8,8,8,8,8,8,8,8,8,8,8,8,8,8,8,8,8,8,8,8]) c d) λi j=>aA (kT U i j) λm n=>aA (aJ .add .none a m n) λo p=>a! (ss 2 o f) p
def OW:Rg:=(aB adt (aB (aB ads (aV (.tmp 4) zz a!)) (aB (aB adr (aV (.tmp 8) zz a!)) (aB (aB adq (aV (.tmp 14) zz a!)) (aB abf c!)))))
def O6:Fun:=bC b! (kp [0,2,4,8,14]) Tryz.f269.ntmps [.tmp 2] OW
theorem ao2(a:V)(h:Hp):O6 [a] h=aU b! [.tmp 2] (OW (ss 0 a T.nil) h):=kR
theorem ayH:aG b! aH 269 O6:=prX aO [2,3,5,6,8,9] [] bF Tryz.func269
def akK:=rC 2 (Y U 0)
def akJ:=r1 2 0 λa h=>O6 [a] h
def ain:Rg:=(aB akK (aB (aV (.const (.bool false)) zz a!) (aB akJ c!)))
def J4:Fun:=bC b! (kp [0,2]) Tryz.f165.ntmps [.tmp 2] ain
theorem auu(a:V)(h:Hp):J4 [a] h=aU b! [.tmp 2] (ain (ss 0 a T.nil) h):=kR
theorem aiv:aG b! aH 165 J4:=prX aO [1] [] (aW ayH bF) Tryz.func165
def GX:=rC 2 (K false)
def GV:=r1 2 0 λa h=>aJ .neq .none a a h
def DR:Rg:=(aB GX (aB GV c!))
def mD:Fun:=bC b! (kp [0,2]) Tryz.f364.ntmps [.tmp 2] DR
theorem SN(a:V)(h:Hp):mD [a] h=aU b! [.tmp 2] (DR (ss 0 a T.nil) h):=kR
theorem abG:aG b! aH 364 mD:=prX aO [] [] bF Tryz.func364
def Xx:=rC 4 (K false)
def Xw:Rg:=λf h=>gtO (ge 0 f) λa=>aA (mD [a] h) λb c=>ifB b (gtO (ge 1 f) λd=>aA (mD [d] c) λi j=>aA (oUn .not i j) λm n=>ifB m (a! (ss 4 (K true) f) n) (aA (aJ .lss .none a d n) λo p=>a! (ss 4 o f) p)) (gtO (ge 1 f) λd=>aA (aJ .lss .none a d c) λo p=>a! (ss 4 o f) p)
def Si:Rg:=(aB Xx (aB Xw c!))
def Ip:Fun:=bC b! (kp [0,1,4]) Tryz.f276.ntmps [.tmp 4] Si
theorem alA(a b:V)(h:Hp):Ip [a,b] h=aU b! [.tmp 4] (Si (ss 1 b (ss 0 a T.nil)) h):=kR
theorem asU:aG b! aH 276 Ip:=prX aO [] [] (aW abG bF) Tryz.func276
def jy:=r1 6 1 λa h=>aJ .add .none a (Y U 1) h
def iD:=r2 12 6 2 λa b h=>aJ .lss .none a b h
def rW:=rM 7 6
def jv:Rg:=λf h=>gtO (ge 7 f) λa=>gtO (ge 1 f) λb=>aA (aJ .gtr .none a b (aI 0 h)) λc _=>ifB c (gtO (ge 0 f) λd=>gtO (ge 7 f) λi=>aA (bJ 1 d i (aI 0 h)) λj _=>aA (aF j (aI 0 h)) λm _=>gtO (ge 0 f) λn=>gtO (ge 7 f) λo=>aA (aJ .sub .none o (Y U 1) (aI 0 h)) λp _=>aA (bJ 1 n p (aI 0 h)) λq _=>aA (aF q (aI 0 h)) λr _=>aA (Ip [m,r] (aI 0 h)) λs t=>a! (ss 30 s f) t) (a! (ss 30 (K false) f) (aI 0 h))
def rU:Rg:=λf h=>gtO (ge 0 f) λa=>gtO (ge 7 f) λb=>gtO (ge 0 f) λc=>gtO (ge 7 f) λd=>aA (aJ .sub .none d (Y U 1) (aI 0 h)) λi _=>aA (bJ 1 c i (aI 0 h)) λj _=>aA (aF j (aI 0 h)) λm _=>gtO (ge 0 f) λn=>gtO (ge 7 f) λo=>aA (bJ 1 n o (aI 0 h)) λp _=>aA (aF p (aI 0 h)) λq _=>aA (bJ 1 a b (aI 0 h)) λr _=>aA (aT 1 r m (aI 0 h)) λ_ s=>gtO (ge 0 f) λt=>gtO (ge 7 f) λu=>aA (aJ .sub .none u (Y U 1) s) λv _=>aA (bJ 1 t v s) λw _=>aA (aT 1 w q s) λ_ x=>a! f x
def rV:=r1 7 7 λa h=>aJ .sub .none a (Y U 1) h
def kZ:=r1 6 6 λa h=>aJ .add .none a (Y U 1) h
def jB:Rg:=(aB (aB jv (aV (.tmp 30) a! (Out.ex 2))) (aB (bK 3 rU) rV))
def iE:Rg:=(aB (aB iD (aV (.tmp 12) a! (Out.ex 0))) (aB (bK 1 (aB rW (bK 2 (dI jB lf)))) kZ))
def fG:Rg:=(aB jy (bK 0 (dI iE lf)))
def gQ:Fun:=bC b! (kp [0,1,2,6,7,12,30]) Tryz.f270.ntmps [] fG
theorem qP(a b c:V)(h:Hp):gQ [a,b,c] h=aU b! [] (fG (ss 2 c (ss 1 b (ss 0 a T.nil))) h):=kR
theorem JY:aG b! aH 270 gQ:=prX aO [] [(4,[0,0,3,7,15,15,63,127,15,15,527,1807,3855,8191,16383],fM [0,16,32,48,64,80,96,115,128,144,160,176,195,210,224]),(6,[0,0,0,0,8,0,0,64,224,480,0,0,3072,7168,16355,32739,65535,131071],fM [0,16,80,96,112,128,147,160,176,192,211,224,242,32,48,64,256,274])] (aW asU bF) Tryz.func270
def MC:=rC 2 (K false)
def MB:=r1 2 0 λa h=>aJ .neq .none a a h
def D9:Rg:=(aB MC (aB MB c!))
def qE:Fun:=bC b! (kp [0,2]) Tryz.f360.ntmps [.tmp 2] D9
theorem abY(a:V)(h:Hp):qE [a] h=aU b! [.tmp 2] (D9 (ss 0 a T.nil) h):=kR
theorem aix:aG b! aH 360 qE:=prX aO [] [] bF Tryz.func360
def Ox:=rC 4 (K false)
def Ov:Rg:=λf h=>gtO (ge 0 f) λa=>aA (qE [a] h) λb c=>ifB b (gtO (ge 1 f) λd=>aA (qE [d] c) λi j=>aA (oUn .not i j) λm n=>ifB m (a! (ss 4 (K true) f) n) (aA (aJ .lss .none a d n) λo p=>a! (ss 4 o f) p)) (gtO (ge 1 f) λd=>aA (aJ .lss .none a d c) λo p=>a! (ss 4 o f) p)
def G8:Rg:=(aB Ox (aB Ov c!))
def zf:Fun:=bC b! (kp [0,1,4]) Tryz.f265.ntmps [.tmp 4] G8
theorem aej(a b:V)(h:Hp):zf [a,b] h=aU b! [.tmp 4] (G8 (ss 1 b (ss 0 a T.nil)) h):=kR
theorem alg:aG b! aH 265 zf:=prX aO [] [] (aW aix bF) Tryz.func265
def iP:=r1 6 1 λa h=>aJ .add .none a (Y U 1) h
def gI:=r2 12 6 2 λa b h=>aJ .lss .none a b h
def pO:=rM 7 6
def iO:Rg:=λf h=>gtO (ge 7 f) λa=>gtO (ge 1 f) λb=>aA (aJ .gtr .none a b (aI 0 h)) λc _=>ifB c (gtO (ge 0 f) λd=>gtO (ge 7 f) λi=>aA (bJ 1 d i (aI 0 h)) λj _=>aA (aF j (aI 0 h)) λm _=>gtO (ge 0 f) λn=>gtO (ge 7 f) λo=>aA (aJ .sub .none o (Y U 1) (aI 0 h)) λp _=>aA (bJ 1 n p (aI 0 h)) λq _=>aA (aF q (aI 0 h)) λr _=>aA (zf [m,r] (aI 0 h)) λs t=>a! (ss 30 s f) t) (a! (ss 30 (K false) f) (aI 0 h))
def pJ:Rg:=λf h=>gtO (ge 0 f) λa=>gtO (ge 7 f) λb=>gtO (ge 0 f) λc=>gtO (ge 7 f) λd=>aA (aJ .sub .none d (Y U 1) (aI 0 h)) λi _=>aA (bJ 1 c i (aI 0 h)) λj _=>aA (aF j (aI 0 h)) λm _=>gtO (ge 0 f) λn=>gtO (ge 7 f) λo=>aA (bJ 1 n o (aI 0 h)) λp _=>aA (aF p (aI 0 h)) λq _=>aA (bJ 1 a b (aI 0 h)) λr _=>aA (aT 1 r m (aI 0 h)) λ_ s=>gtO (ge 0 f) λt=>gtO (ge 7 f) λu=>aA (aJ .sub .none u (Y U 1) s) λv _=>aA (bJ 1 t v s) λw _=>aA (aT 1 w q s) λ_ x=>a! f x
def pK:=r1 7 7 λa h=>aJ .sub .none a (Y U 1) h
def kE:=r1 6 6 λa h=>aJ .add .none a (Y U 1) h
def iQ:Rg:=(aB (aB iO (aV (.tmp 30) a! (Out.ex 2))) (aB (bK 3 pJ) pK))
def gJ:Rg:=(aB (aB gI (aV (.tmp 12) a! (Out.ex 0))) (aB (bK 1 (aB pO (bK 2 (dI iQ lf)))) kE))
def eX:Rg:=(aB iP (bK 0 (dI gJ lf)))
def fJ:Fun:=bC b! (kp [0,1,2,6,7,12,30]) Tryz.f259.ntmps [] eX
theorem oV(a b c:V)(h:Hp):fJ [a,b,c] h=aU b! [] (eX (ss 2 c (ss 1 b (ss 0 a T.nil))) h):=kR
theorem Fh:aG b! aH 259 fJ:=prX aO [] [(4,[0,0,3,7,15,15,63,127,15,15,527,1807,3855,8191,16383],fM [0,16,32,48,64,80,96,115,128,144,160,176,195,210,224]),(6,[0,0,0,0,8,0,0,64,224,480,0,0,3072,7168,16355,32739,65535,131071],fM [0,16,80,96,112,128,147,160,176,192,211,224,242,32,48,64,256,274])] (aW alg bF) Tryz.func259
def zM:=rC 8 (K true)
def zL:=rC 9 (K true)
def zK:=r2 10 2 1 λa b h=>aJ .sub .none a b h
def zJ:=r1 23 10 λa h=>aJ .leq .none a (Y U 12) h
def zI:Rg:=λf h=>gtO (ge 0 f) λa=>gtO (ge 1 f) λb=>gtO (ge 2 f) λc=>aA (gQ [a,b,c] h) λd i=>a! f i
def Am:Rg:=(bK 1 (aB zK (aB (aB zJ (aV (.tmp 23) (aB zI c!) a!)) zz)))
def nJ:Rg:=(aB zM (aB zL (bK 0 (dI Am lf))))
def nK:Fun:=bC b! (kp [0,1,2,3,8,9,10,11,12,13,14,15,16,17,18,23,29,35,50,68,72,87,113]) Tryz.f167.ntmps [] nJ
theorem O4(a b c d:V)(h:Hp):nK [a,b,c,d] h=aU b! [] (nJ (ss 3 d (ss 2 c (ss 1 b (ss 0 a T.nil)))) h):=kR
theorem VD:aG b! aH 167 nK:=prX aO [5,6,7,8,9,10,11,12,13,14,15,16,17,18,19,20,21,22,23,24,25,26,27,28,29,30] [] (aW JY bF) Tryz.func167
def vF:=rC 8 (K true)
def vC:=rC 9 (K true)
def vz:=r2 10 2 1 λa b h=>aJ .sub .none a b h
def ve:=r1 23 10 λa h=>aJ .leq .none a (Y U 12) h
def uZ:Rg:=λf h=>gtO (ge 0 f) λa=>gtO (ge 1 f) λb=>gtO (ge 2 f) λc=>aA (fJ [a,b,c] h) λd i=>a! f i
def vK:Rg:=(bK 1 (aB vz (aB (aB ve (aV (.tmp 23) (aB uZ c!) a!)) zz)))
def kQ:Rg:=(aB vF (aB vC (bK 0 (dI vK lf))))
def aLm:Fun:=bC b! (kp [0,1,2,3,8,9,10,11,12,13,14,15,16,17,18,23,29,35,50,68,72,87,113]) Tryz.f164.ntmps [] kQ
theorem J3(a b c d:V)(h:Hp):aLm [a,b,c,d] h=aU b! [] (kQ (ss 3 d (ss 2 c (ss 1 b (ss 0 a T.nil)))) h):=kR
theorem O0:aG b! aH 164 aLm:=prX aO [5,6,7,8,9,10,11,12,13,14,15,16,17,18,19,20,21,22,23,24,25,26,27,28,29,30] [] (aW Fh bF) Tryz.func164
def Xm:=r1 2 0 λa h=>aZ 2 a h
def Xl:Rg:=λf h=>gtO (ge 0 f) λa=>gtO (ge 2 f) λb=>aA (kT .u64 b h) λc d=>aA (J4 [c] d) λi j=>aA (nK [a,(Y U 0),b,i] j) λm n=>a! f n
def RY:Rg:=(aB Xm Xl)
def nT:Fun:=bC b! (kp [0,2]) Tryz.f87.ntmps [] RY
theorem aly(a:V)(h:Hp):nT [a] h=aU b! [] (RY (ss 0 a T.nil) h):=kR
theorem aea:aG b! aH 87 nT:=prX aO [] [] (aW aiv (aW VD bF)) Tryz.func87
def NY:=r1 2 0 λa h=>aZ 2 a h
def NW:Rg:=λf h=>gtO (ge 0 f) λa=>gtO (ge 2 f) λb=>aA (kT .u64 b h) λc d=>aA (J4 [c] d) λi j=>aA (aLm [a,(Y U 0),b,i] j) λm n=>a! f n
def G5:Rg:=(aB NY NW)
def lG:Fun:=bC b! (kp [0,2]) Tryz.f82.ntmps [] G5
theorem aeh(a:V)(h:Hp):lG [a] h=aU b! [] (G5 (ss 0 a T.nil) h):=kR
theorem alc:aG b! aH 82 lG:=prX aO [] [] (aW aiv (aW O0 bF)) Tryz.func82
def OD:=rC 4 (Y U 0)
def OC:=r1 5 0 λa h=>mD [a] h
def OB:=r1 6 1 λa h=>mD [a] h
def OA:=rM 11 5
def Oz:=rM 13 6
def Oy:=r2 16 0 1 λa b h=>aJ .lss .none a b h
def MG:=r2 19 0 1 λa b h=>aJ .gtr .none a b h
def MF:=rC 4 (Y U 1)
def G9:Rg:=(aB OD (aB OC (aB OB (aB (aB OA (aV (.tmp 11) zz a!)) (aB (aB Oz (aV (.tmp 13) zz a!)) (aB (aB Oy (aV (.tmp 16) zz a!)) (aB (aB MG (aV (.tmp 19) (aB MF c!) a!)) zz)))))))
def zh:Fun:=bC b! (kp [0,1,4,5,6,11,12,13,16,19]) Tryz.f285.ntmps [.tmp 4] G9
theorem aek(a b:V)(h:Hp):zh [a,b] h=aU b! [.tmp 4] (G9 (ss 1 b (ss 0 a T.nil)) h):=kR
theorem alh:aG b! aH 285 zh:=prX aO [4,5,6,8,10,13] [] (aW abG bF) Tryz.func285
def Wy:Rg:=λf h=>gtO (ge 0 f) λa=>aA (fO 250 a h) λb c=>gtO (ge 1 (ss 2 b f)) λd=>aA (fO 250 d c) λi j=>a! (ss 4 (Y U 0) (ss 3 i (ss 2 b f))) j
def Wx:Rg:=λf h=>gtO (ge 2 f) λa=>aA (aC 0 a h) λb c=>aA (aF b c) λd i=>gtO (ge 3 f) λj=>aA (aC 0 j i) λm n=>aA (aF m n) λo p=>aA (zh [d,o] p) λq r=>a! (ss 4 q f) r
def RS:Rg:=(aB Wy (aB Wx c!))
def qB:Fun:=bC b! (kp [0,1,2,3,4]) Tryz.f284.ntmps [.tmp 4] RS
theorem alq(a b:V)(h:Hp):qB [a,b] h=aU b! [.tmp 4] (RS (ss 1 b (ss 0 a T.nil)) h):=kR
theorem Sj:aG b! aH 284 qB:=prX aO [] [] (aW alh bF) Tryz.func284
def iw:FuncId->Option Fun:=tK [(284,qB)]
def yG:Rg:=λf h=>a! (ss 11 (Y U 0) (ss 10 (Y U 0) f)) h
def yF:Rg:=λf h=>gtO (ge 4 f) λa=>gtO (ge 0 f) λb=>gtO (ge 2 f) λc=>aA (bJ 9 b c (aI 0 h)) λd _=>aA (bT 9 d (aI 0 h)) λi _=>gtO (ge 0 f) λj=>gtO (ge 1 f) λm=>aA (bJ 9 j m (aI 0 h)) λn _=>aA (bT 9 n (aI 0 h)) λo _=>aA (dK iw a [i,o] (aI 0 h)) λp q=>aA (aJ .lss .none p (Y U 0) q) λr _=>a! (ss 22 r f) q
def yE:Rg:=λf h=>gtO (ge 1 f) λa=>gtO (ge 2 f) λb=>a! (ss 11 b (ss 10 a f)) h
def qR:Rg:=(aB yG (aB (aB yF (aV (.tmp 22) zz a!)) (aB yE c!)))
def iU:Fun:=bC b! (kp [0,1,2,3,4,10,11,22]) Tryz.f527.ntmps [.tmp 10,.tmp 11] qR
theorem NT(a b c d e:V)(h:Hp):iU [a,b,c,d,e] h=aU b! [.tmp 10,.tmp 11] (qR (ss 4 e (ss 3 d (ss 2 c (ss 1 b (ss 0 a T.nil))))) h):=kR
theorem SS:aG b! aH 527 iU:=prX aO [2,3] [(1,[0,0,0,6,14,0,0,96,224,511,1023],fM [0,16,32,48,67,80,96,112,131,146,160])] (aW Sj bF) Tryz.func527
def yL:=rC 12 (Y U 0)
def yK:Rg:=λf h=>gtO (ge 0 f) λa=>gtO (ge 1 f) λb=>gtO (ge 2 f) λc=>gtO (ge 4 f) λd=>gtO (ge 5 f) λi=>aA (iU [a,b,c,d,i] h) λj m=>aA (dA 0 j m) λn o=>aA (dA 1 j o) λp q=>a! (ss 2 p (ss 1 n f)) q
def yJ:Rg:=λf h=>gtO (ge 0 f) λa=>gtO (ge 2 f) λb=>gtO (ge 3 f) λc=>gtO (ge 4 f) λd=>gtO (ge 5 f) λi=>aA (iU [a,b,c,d,i] h) λj m=>aA (dA 0 j m) λn o=>aA (dA 1 j o) λp q=>a! (ss 3 p (ss 2 n f)) q
def yI:Rg:=λf h=>gtO (ge 0 f) λa=>gtO (ge 1 f) λb=>gtO (ge 2 f) λc=>gtO (ge 4 f) λd=>gtO (ge 5 f) λi=>aA (iU [a,b,c,d,i] h) λj m=>aA (dA 0 j m) λn o=>aA (dA 1 j o) λp q=>a! (ss 2 p (ss 1 n f)) q
def yH:=rM 12 2
def qU:Rg:=(aB yL (aB yK (aB yJ (aB yI (aB yH c!)))))
def mJ:Fun:=bC b! (kp [0,1,2,3,4,5,12]) Tryz.f491.ntmps [.tmp 12] qU
theorem NU(a b c d e f:V)(h:Hp):mJ [a,b,c,d,e,f] h=aU b! [.tmp 12] (qU (ss 5 f (ss 4 e (ss 3 d (ss 2 c (ss 1 b (ss 0 a T.nil)))))) h):=kR
theorem SV:aG b! aH 491 mJ:=prX aO [] [] (aW SS bF) Tryz.func491
def sO:Rg:=λf h=>a! (ss 9 (Y U 0) (ss 8 (Y U 0) f)) h
def sN:=r2 10 2 1 λa b h=>aJ .sub .none a b h
def sK:Rg:=λf h=>aA (fC 3 [(Y U 0)] h) λa b=>a! (ss 11 a f) b
def sJ:Rg:=λf h=>gtO (ge 1 f) λa=>gtO (ge 10 f) λb=>aA (aJ .quo .none b (Y U 4) h) λc d=>aA (aJ .mul .none c (Y U 1) d) λi j=>aA (aJ .add .none a i j) λm n=>a! (ss 12 m f) n
def sH:Rg:=λf h=>gtO (ge 1 f) λa=>gtO (ge 10 f) λb=>aA (aJ .quo .none b (Y U 4) h) λc d=>aA (aJ .mul .none c (Y U 2) d) λi j=>aA (aJ .add .none a i j) λm n=>a! (ss 13 m f) n
def sG:Rg:=λf h=>gtO (ge 1 f) λa=>gtO (ge 10 f) λb=>aA (aJ .quo .none b (Y U 4) h) λc d=>aA (aJ .mul .none c (Y U 3) d) λi j=>aA (aJ .add .none a i j) λm n=>a! (ss 14 m f) n
def sF:=r1 34 10 λa h=>aJ .geq .none a (Y U 8) h
def sD:=r1 36 10 λa h=>aJ .geq .none a (Y U 50) h
def qO:Rg:=λf h=>gtO (ge 0 f) λa=>gtO (ge 12 f) λb=>gtO (ge 13 f) λc=>gtO (ge 14 f) λd=>gtO (ge 3 f) λi=>gtO (ge 11 f) λj=>aA (mJ [a,b,c,d,j,i] h) λm n=>a! (ss 13 m f) n
def qN:=r1 55 11 λa h=>aF a h
def qM:=r1 57 55 λa h=>aJ .eql .none a (Y U 0) h
def qL:Rg:=λf h=>gtO (ge 13 f) λa=>a! (ss 9 (Y U 1) (ss 8 a f)) h
def nD:Rg:=(aB sO (aB sN (aB sK (aB sJ (aB sH (aB sG (aB (aB sF (aV (.tmp 34) (aB (aB sD (aV (.tmp 36) zz a!)) qO) a!)) (aB qN (bK 0 (aB qM (aV (.tmp 57) (aB qL c!) zz)))))))))))
def jP:Fun:=bC b! (kp [0,1,2,3,8,9,10,11,12,13,14,34,36,55,57,60]) Tryz.f430.ntmps [.tmp 8,.tmp 9] nD
theorem Fj(a b c d:V)(h:Hp):jP [a,b,c,d] h=aU b! [.tmp 8,.tmp 9] (nD (ss 3 d (ss 2 c (ss 1 b (ss 0 a T.nil)))) h):=kR
theorem JZ:aG b! aH 430 jP:=prX aO [8,9,10,16,17,13] [] (aW SV bF) Tryz.func430
def jD:FuncId->Option Fun:=tK [(284,qB)]
def mg:=rC 8 (K false)
def l7:=r1 9 1 λa h=>aJ .add .none a (Y U 1) h
def lZ:=rC 10 (Y U 0)
def lY:=r1 16 10 λa h=>aJ .lss .none a (Y U 5) h
def jd:Rg:=λf h=>gtO (ge 9 f) λa=>gtO (ge 2 f) λb=>aA (aJ .lss .none a b (aI 0 h)) λc _=>ifB c (gtO (ge 3 f) λd=>gtO (ge 0 f) λi=>gtO (ge 9 f) λj=>aA (bJ 9 i j (aI 0 h)) λm _=>aA (bT 9 m (aI 0 h)) λn _=>gtO (ge 0 f) λo=>gtO (ge 9 f) λp=>aA (aJ .sub .none p (Y U 1) (aI 0 h)) λq _=>aA (bJ 9 o q (aI 0 h)) λr _=>aA (bT 9 r (aI 0 h)) λs _=>aA (dK jD d [n,s] (aI 0 h)) λt u=>aA (aJ .lss .none t (Y U 0) u) λv _=>aA (oUn .not v u) λw _=>a! (ss 36 w f) u) (a! (ss 36 (K false) f) (aI 0 h))
def lW:=r1 9 9 λa h=>aJ .add .none a (Y U 1) h
def lV:=r2 41 9 2 λa b h=>aJ .eql .none a b h
def lU:=rC 8 (K true)
def lX:=r1 10 10 λa h=>aJ .add .none a (Y U 1) h
def je:Rg:=(aB (aB jd (aV (.tmp 36) a! (Out.ex 2))) (bK 3 lW))
def ZT:Rg:=zz
def ZR:Rg:=zz
def mr:Rg:=(aB (aB lY (aV (.tmp 16) a! (Out.ex 0))) (aB (bK 1 (aB (bK 2 (dI je lf)) (aB (aB lV (aV (.tmp 41) (aB lU c!) a!)) zz))) lX))
def gZ:Rg:=(aB mg (aB l7 (aB (aB lZ (bK 0 (dI mr lf))) zz)))
def ig:Fun:=bC b! (kp [0,1,2,3,8,9,10,11,12,16,36,41,45,65,69,84,104,109,124]) Tryz.f432.ntmps [.tmp 8] gZ
theorem wU(a b c d:V)(h:Hp):ig [a,b,c,d] h=aU b! [.tmp 8] (gZ (ss 3 d (ss 2 c (ss 1 b (ss 0 a T.nil)))) h):=kR
theorem zk:aG b! aH 432 ig:=prX aO [9,10,11,12,13,14,16,17,15,18,19,20,22,23,21,24] [(5,[0,0,3,7,15,15,15,111,239,15,15,1039,3599,7695,16383,32767,65535,131071],fM [0,16,32,48,64,80,96,112,131,144,160,176,192,211,226,240,256,272])] (aW Sj bF) Tryz.func432
def lC:FuncId->Option Fun:=tK [(284,qB)]
def qf:=r1 8 1 λa h=>aJ .add .none a (Y U 1) h
def kH:=r2 14 8 2 λa b h=>aJ .lss .none a b h
def qc:=rM 9 8
def pY:Rg:=λf h=>gtO (ge 9 f) λa=>gtO (ge 1 f) λb=>aA (aJ .gtr .none a b (aI 0 h)) λc _=>ifB c (gtO (ge 3 f) λd=>gtO (ge 0 f) λi=>gtO (ge 9 f) λj=>aA (bJ 9 i j (aI 0 h)) λm _=>aA (bT 9 m (aI 0 h)) λn _=>gtO (ge 0 f) λo=>gtO (ge 9 f) λp=>aA (aJ .sub .none p (Y U 1) (aI 0 h)) λq _=>aA (bJ 9 o q (aI 0 h)) λr _=>aA (bT 9 r (aI 0 h)) λs _=>aA (dK lC d [n,s] (aI 0 h)) λt u=>aA (aJ .lss .none t (Y U 0) u) λv _=>a! (ss 34 v f) u) (a! (ss 34 (K false) f) (aI 0 h))
def kG:=r1 8 8 λa h=>aJ .add .none a (Y U 1) h
def qA:Rg:=(aB (aB pY (aV (.tmp 34) a! (Out.ex 2))) zz)
def kJ:Rg:=(aB (aB kH (aV (.tmp 14) a! (Out.ex 0))) (aB (bK 1 (aB qc (bK 2 (dI qA lf)))) kG))
def jA:Rg:=(aB qf (bK 0 (dI kJ lf)))
def jC:Fun:=bC b! (kp [0,1,2,3,8,9,14,34]) Tryz.f427.ntmps [] jA
theorem Dw(a b c d:V)(h:Hp):jC [a,b,c,d] h=aU b! [] (jA (ss 3 d (ss 2 c (ss 1 b (ss 0 a T.nil)))) h):=kR
theorem HY:aG b! aH 427 jC:=prX aO [6,5] [(4,[0,0,3,7,15,15,15,111,239,15,15,1039,3599,7695,16383,32767,65535],fM [0,16,32,48,64,80,96,112,131,144,160,176,192,211,226,240,256])] (aW Sj bF) Tryz.func427
def xC:=rC 10 (K true)
def xB:=rC 11 (K true)
def oJ:=r2 12 2 1 λa b h=>aJ .sub .none a b h
def oI:=r1 25 12 λa h=>aJ .leq .none a (Y U 12) h
def xA:Rg:=λf h=>gtO (ge 0 f) λa=>gtO (ge 1 f) λb=>gtO (ge 2 f) λc=>gtO (ge 4 f) λd=>aA (jC [a,b,c,d] h) λi j=>a! f j
def xw:=r1 32 3 λa h=>aJ .eql .none a (Y U 0) h
def xu:=r1 39 10 λa h=>oUn .not a h
def vJ:Rg:=λf h=>gtO (ge 0 f) λa=>gtO (ge 1 f) λb=>gtO (ge 2 f) λc=>gtO (ge 4 f) λd=>aA (jP [a,b,c,d] h) λi j=>aA (dA 0 i j) λm n=>aA (dA 1 i n) λo p=>a! (ss 14 o (ss 13 m f)) p
def vI:=r1 56 14 λa h=>aJ .eql .none a (Y U 2) h
def vH:Rg:=λf h=>gtO (ge 10 f) λa=>ifB a (gtO (ge 11 f) λb=>ifB b (gtO (ge 14 f) λc=>aA (aJ .eql .none c (Y U 1) h) λd i=>a! (ss 75 d f) i) (a! (ss 75 (K false) f) h)) (a! (ss 75 (K false) f) h)
def vG:Rg:=λf h=>gtO (ge 0 f) λa=>gtO (ge 1 f) λb=>gtO (ge 2 f) λc=>gtO (ge 4 f) λd=>aA (ig [a,b,c,d] h) λi j=>a! (ss 80 i f) j
def oK:Rg:=(bK 1 (aB oJ (aB (aB oI (aV (.tmp 25) (aB xA c!) a!)) (aB (aB xw (aV (.tmp 32) zz a!)) (aB (aB xu (aV (.tmp 39) zz a!)) (aB vJ (aB (aB vI (aV (.tmp 56) zz a!)) (aB (aB vH (aV (.tmp 75) (aB vG (aV (.tmp 80) c! a!)) a!)) zz))))))))
def lD:Rg:=(aB xC (aB xB (bK 0 (dI oK lf))))
def lH:Fun:=bC b! (kp [0,1,2,3,4,10,11,12,13,14,15,16,17,18,19,20,25,32,39,56,75,80,97,125]) Tryz.f368.ntmps [] lD
theorem MQ(a b c d e:V)(h:Hp):lH [a,b,c,d,e] h=aU b! [] (lD (ss 4 e (ss 3 d (ss 2 c (ss 1 b (ss 0 a T.nil))))) h):=kR
theorem Sm:aG b! aH 368 lH:=prX aO [6,8,9,12,13,14,17,18,19,20,21,22,23,24,25,26,27,28,29,30] [] (aW HY (aW JZ (aW zk bF))) Tryz.func368
def Gg:=r1 4 0 λa h=>aZ 2 a h
def Gf:Rg:=λf h=>gtO (ge 0 f) λa=>gtO (ge 4 f) λb=>aA (kT .u64 b h) λc d=>aA (J4 [c] d) λi j=>gtO (ge 1 f) λm=>aA (lH [a,(Y U 0),b,i,m] j) λn o=>a! f o
def Ag:Rg:=(aB Gg Gf)
def sV:Fun:=bC b! (kp [0,1,4]) Tryz.f283.ntmps [] Ag
theorem XE(a b:V)(h:Hp):sV [a,b] h=aU b! [] (Ag (ss 1 b (ss 0 a T.nil)) h):=kR
theorem aeb:aG b! aH 283 sV:=prX aO [] [] (aW aiv (aW Sm bF)) Tryz.func283
def ag0:Rg:=λf h=>a! (ss 3 (Y U 0) (ss 2 .aQ f)) h
def agZ:=r1 6 0 λa h=>mM [a,(.func (.func 79) .nil .nil)] h
def agY:=r1 4 0 λa h=>qC [a] h
def agX:Rg:=λf h=>gtO (ge 4 f) λa=>aA (lG [a] h) λb c=>a! f c
def agW:=r1 4 4 λa h=>sZ [a] h
def agV:Rg:=λf h=>gtO (ge 4 f) λa=>aA (aZ 2 a h) λb c=>aA (aJ .gtr .none b (Y U 16) c) λd i=>a! (ss 15 d f) i
def agU:Rg:=λf h=>gtO (ge 4 f) λa=>a! (ss 3 (Y U 0) (ss 2 a f)) h
def ad3:Rg:=(aB ag0 (aB (aB agZ (aV (.tmp 6) zz a!)) (aB agY (aB agX (aB agW (aB (aB agV (aV (.tmp 15) zz a!)) (aB agU c!)))))))
def MX:Fun:=bC b! (kp [0,2,3,4,6,15]) Tryz.f32.ntmps [.tmp 2,.tmp 3] ad3
theorem atg(a:V)(h:Hp):MX [a] h=aU b! [.tmp 2,.tmp 3] (ad3 (ss 0 a T.nil) h):=kR
theorem aow:aG b! aH 32 MX:=prX aO [2,7] [] (aW SX (aW Sr (aW alc (aW aee bF)))) Tryz.func32
def ak1:=r1 9 0 λa h=>aJ .eql (.ptr 3) a .bP h
def ak0:Rg:=λf h=>gtO (ge 1 f) λa=>aA (aZ 2 a h) λb c=>a! (ss 12 (Y U 0) (ss 11 b (ss 10 a f))) c
def akZ:=r2 13 12 11 λa b h=>aJ .lss .none a b h
def Y8:Rg:=λf h=>gtO (ge 10 f) λa=>gtO (ge 12 f) λb=>aA (bJ 4 a b h) λc d=>aA (bT 4 c d) λi j=>aA (fC 85 [(Y U 0),(Y U 0),(Y U 0),(Y U 0)] j) λm n=>aA (aT 4 m i n) λ_ o=>a! (ss 5 m f) o
def Y7:Rg:=λf h=>gtO (ge 0 f) λa=>aA (aN a h) λb c=>aA (aC 1 b c) λd i=>aA (aF d i) λj m=>aA (aZ 2 j m) λn o=>a! (ss 6 n f) o
def Y6:Rg:=λf h=>gtO (ge 6 f) λa=>aA (aJ .gtr .none a (Y U 0) (aI 0 h)) λb _=>ifB b (gtO (ge 5 f) λc=>aA (aC 0 c (aI 0 h)) λd _=>aA (aF d (aI 0 h)) λi _=>gtO (ge 0 f) λj=>aA (aN j (aI 0 h)) λm _=>aA (aC 1 m (aI 0 h)) λn _=>aA (aF n (aI 0 h)) λo _=>gtO (ge 6 f) λp=>aA (aJ .sub .none p (Y U 1) (aI 0 h)) λq _=>aA (bJ 4 o q (aI 0 h)) λr _=>aA (aC 0 r (aI 0 h)) λs _=>aA (aF s (aI 0 h)) λt _=>aA (aJ .lss .none i t (aI 0 h)) λu _=>a! (ss 36 u f) (aI 0 h)) (a! (ss 36 (K false) f) (aI 0 h))
def Y5(fr:F)(h:Hp):Out:=
 gtO (ge 0 fr) λa=>aA (aN a (aI 1 h)) λb _=>
 aA (aC 1 b (aI 1 h)) λc _=>
 aA (aF c (aI 1 h)) λd _=>
 gtO (ge 5 fr) λi=>aA (bT 4 i (aI 1 h)) λj _=>
 FQ (eH 85 [(Y U 0),(Y U 0),(Y U 0),(Y U 0)] 1 [(0,4,j)]) λf e=>
 aA (cZ 85 4 32 d (e (Hp.next h)) (Hp.put (aI 1 h) (Hp.next h) (some f))) λm n=>
 gtO (ge 0 fr) λo=>aA (aN o n) λp _=>
 aA (aC 1 p n) λq _=>
 aA (aT 1 q m n) λ_ r=>
 a! fr r
def akY:=r1 12 12 λa h=>aJ .add .none a (Y U 1) h
def akX:Rg:=λf h=>gtO (ge 0 f) λa=>aA (aN a (aI 0 h)) λb _=>aA (aC 1 b (aI 0 h)) λc _=>aA (aF c (aI 0 h)) λd _=>aA (aZ 2 d (aI 0 h)) λi _=>gtO (ge 0 f) λj=>aA (aN j (aI 0 h)) λm _=>aA (aC 0 m (aI 0 h)) λn _=>aA (aF n (aI 0 h)) λo _=>aA (aJ .sub .none i o (aI 0 h)) λp _=>a! (ss 7 p f) (aI 0 h)
def akW:=r1 59 7 λa h=>aJ .gtr .none a (Y U 0) h
def alo:Rg:=(aB akZ (aB (aV (.tmp 13) a! (Out.ex 0)) (aB (bK 1 (aB Y8 (aB (aB Y7 (aB Y6 (aV (.tmp 36) (Out.ex 0) a!))) Y5))) akY)))
def ZH:Rg:=(aB (aB ak1 (aV (.tmp 9) c! a!)) (aB (aB ak0 (bK 0 (dI alo lf))) (aB akX (aB akW (aV (.tmp 59) zz a!)))))
def Eb:Fun:=bC b! (kp [0,1,5,6,7,9,10,11,12,13,36,59]) Tryz.f38.ntmps [] ZH
theorem auz(a b:V)(h:Hp):Eb [a,b] h=aU b! [] (ZH (ss 1 b (ss 0 a T.nil)) h):=kR
theorem aiw:aG b! aH 38 Eb:=prX aO [10,11] [(5,[0,1,3,7,15,7,39,103,231,7,519,2023,4071,8167,16383,32767],fM [0,16,32,48,67,80,96,112,131,144,160,176,192,211,224,240]),(6,[0,0,2,6,14,0,32,126,255,511,1023],fM [16,32,48,67,83,97,114,0,128,144,162]),(8,[0,1,3,7,15,0,32,96,224,511,1023],fM [0,16,32,51,64,80,96,112,131,144,160])] bF Tryz.func38
def agt:=rC 2 .bP
def ags:=r1 5 0 λa h=>aJ .eql (.ptr 3) a .bP h
def agr:Rg:=λf h=>gtO (ge 0 f) λa=>aA (aN a h) λb c=>aA (bT 3 b c) λd i=>aA (fC 130 [(Y U 0),.aQ,(Y U 0)] i) λj m=>aA (aT 3 j d m) λ_ n=>a! (ss 3 j f) n
def agq:Rg:=λf h=>gtO (ge 0 f) λa=>aA (aN a h) λb c=>aA (aC 1 b c) λd i=>aA (aF d i) λj m=>aA (oz [j] m) λn o=>gtO (ge 3 f) λp=>aA (aC 1 p o) λq r=>aA (aT 1 q n r) λ_ s=>a! f s
def agp:=rM 2 3
def adV:Rg:=(aB agt (aB (aB ags (aV (.tmp 5) zz a!)) (aB agr (aB agq (aB agp c!)))))
def Ul:Fun:=bC b! (kp [0,2,3,5]) Tryz.f353.ntmps [.tmp 2] adV
theorem as8(a:V)(h:Hp):Ul [a] h=aU b! [.tmp 2] (adV (ss 0 a T.nil) h):=kR
theorem aA5:aG b! aH 353 Ul:=prX aO [2] [] (aW ale bF) Tryz.func353
def adl:=rC 2 (Y U 0)
def adk:=r1 4 0 λa h=>aJ .eql (.ptr 16) a .bP h
def adi:Rg:=λf h=>gtO (ge 0 f) λa=>aA (aN a h) λb c=>aA (aC 9 b c) λd i=>aA (vN [d] i) λj m=>a! (ss 2 j f) m
def ZC:Rg:=(aB adl (aB (aB adk (aV (.tmp 4) zz a!)) (aB adi c!)))
def Ii:Fun:=bC b! (kp [0,2,4]) Tryz.f19.ntmps [.tmp 2] ZC
theorem ao0(a:V)(h:Hp):Ii [a] h=aU b! [.tmp 2] (ZC (ss 0 a T.nil) h):=kR
theorem alb:aG b! aH 19 Ii:=prX aO [2] [] (aW Ui bF) Tryz.func19
def adp:=rC 2 .aQ
def ado:=r1 4 0 λa h=>aJ .eql (.ptr 16) a .bP h
def adn:Rg:=λf h=>gtO (ge 0 f) λa=>aA (aN a h) λb c=>aA (aC 10 b c) λd i=>aA (aF d i) λj m=>aA (DT [j] m) λn o=>a! (ss 2 n f) o
def ZE:Rg:=(aB adp (aB (aB ado (aV (.tmp 4) zz a!)) (aB adn c!)))
def wS:Fun:=bC b! (kp [0,2,4]) Tryz.f24.ntmps [.tmp 2] ZE
theorem ao1(a:V)(h:Hp):wS [a] h=aU b! [.tmp 2] (ZE (ss 0 a T.nil) h):=kR
theorem OZ:aG b! aH 24 wS:=prX aO [2] [] (aW aoV bF) Tryz.func24
def aa5:Rg:=λf h=>gtO (ge 0 f) λa=>aA (fO 40 a h) λb c=>aA (fC 40 [(Y U 0),(Y U 0),(H []),(Y U 0),.aQ,.aQ,(Y U 0),(Y U 0)] c) λd i=>a! (ss 2 d (ss 1 b f)) i
def aa4:Rg:=λf h=>gtO (ge 1 f) λa=>aA (aC 4 a (aI 0 h)) λb _=>aA (aF b (aI 0 h)) λc _=>aA (qC [c] (aI 0 h)) λd i=>gtO (ge 1 f) λj=>aA (aC 5 j i) λm _=>aA (aF m i) λn _=>chk (λh=>aF m h) n ( aA (wY [n] i) λo p=>gtO (ge 1 f) λq=>aA (aC 4 q p) λr _=>aA (aT 1 r d p) λ_ s=>gtO (ge 1 f) λt=>aA (aC 5 t s) λu _=>aA (aT 1 u o s) λ_ v=>a! f v) 1 [(aI 0 h)]
def aa3:Rg:=λf h=>gtO (ge 1 f) λa=>aA (bT 8 a h) λb c=>gtO (ge 2 f) λd=>aA (aT 8 d b c) λ_ i=>a! f i
def U7:Rg:=(aB aa5 (aB aa4 (aB aa3 c!)))
def KE:Fun:=bC b! (kp [0,1,2]) Tryz.f43.ntmps [.cell 2 40] U7
theorem ana(a:V)(h:Hp):KE [a] h=aU b! [.cell 2 40] (U7 (ss 0 a T.nil) h):=kR
theorem aue:aG b! aH 43 KE:=prX aO [] [(1,[0,1,3,0,8,31,31,127,255,511],fM [0,19,34,48,68,82,96,114,128,146])] (aW Sr (aW aiu bF)) Tryz.func43
def ade:=rC 2 .aQ
def adb:=r1 7 0 λa h=>aJ .eql (.ptr 16) a .bP h
def ada:=rC 3 .aQ
def ac9:Rg:=λf h=>gtO (ge 0 f) λa=>aA (aN a h) λb c=>aA (aC 11 b c) λd i=>aA (aF d i) λj m=>aA (aZ 2 j m) λn o=>a! (ss 13 (Y U 0) (ss 12 n (ss 11 j f))) o
def ac8:=r2 14 13 12 λa b h=>aJ .lss .none a b h
def ac7:Rg:=λf h=>gtO (ge 11 f) λa=>gtO (ge 13 f) λb=>aA (bJ 8 a b h) λc d=>aA (bT 8 c d) λi j=>aA (fC 40 [(Y U 0),(Y U 0),(H []),(Y U 0),.aQ,.aQ,(Y U 0),(Y U 0)] j) λm n=>aA (aT 8 m i n) λ_ o=>a! (ss 5 m f) o
def ac6:Rg:=λf h=>gtO (ge 3 f) λa=>gtO (ge 5 f) λb=>aA (bT 8 b h) λc d=>aA (KE [c] d) λi j=>aA (bY 40 [(Y U 0),(Y U 0),(H []),(Y U 0),.aQ,.aQ,(Y U 0),(Y U 0)] 1 [(0,8,i)] j) λm n=>aA (cZ 40 8 104 a m n) λo p=>a! (ss 3 o f) p
def ac5:=r1 13 13 λa h=>aJ .add .none a (Y U 1) h
def ac4:=rM 2 3
def aef:Rg:=(aB ac8 (aB (aV (.tmp 14) a! (Out.ex 0)) (aB (bK 1 (aB ac7 ac6)) ac5)))
def ZA:Rg:=(aB ade (aB (aB adb (aV (.tmp 7) zz a!)) (aB ada (aB (aB ac9 (bK 0 (dI aef lf))) (aB ac4 c!)))))
def jO:Fun:=bC b! (kp [0,2,3,5,7,11,12,13,14]) Tryz.f15.ntmps [.tmp 2] ZA
theorem aoY(a:V)(h:Hp):jO [a] h=aU b! [.tmp 2] (ZA (ss 0 a T.nil) h):=kR
theorem OY:aG b! aH 15 jO:=prX aO [2] [] (aW aue bF) Tryz.func15
def agc:Rg:=λf h=>gtO (ge 1 f) λa=>aA (fO 3 a h) λb c=>a! (ss 4 (Y U 0) (ss 3 b f)) c
def agb:Rg:=λf h=>gtO (ge 0 f) λa=>aA (aN a h) λb c=>aA (aC 11 b c) λd i=>aA (aF d i) λj m=>gtO (ge 3 f) λn=>aA (eP (.func 77) [] [n] m) λo p=>aA (kM [j,o] p) λq r=>a! (ss 4 q f) r
def adR:Rg:=(aB agc (aB agb c!))
def MN:Fun:=bC b! (kp [0,1,3,4]) Tryz.f31.ntmps [.tmp 4] adR
theorem as3(a b:V)(h:Hp):MN [a,b] h=aU b! [.tmp 4] (adR (ss 1 b (ss 0 a T.nil)) h):=kR
theorem aot:aG b! aH 31 MN:=prX aO [] [] (aW Ak bF) Tryz.func31
def agf:=rC 2 (K false)
def agd:Rg:=λf h=>gtO (ge 0 f) λa=>aA (Ii [a] (aI 0 h)) λb c=>gtO (ge 0 f) λd=>aA (aN d c) λi _=>aA (aC 0 i c) λj _=>aA (aC 6 j c) λm _=>aA (aF m c) λn _=>chk (λh=>aF m h) n ( aA (aJ .geq .none b n c) λo _=>a! (ss 2 o f) c) 1 [(aI 0 h)]
def adS:Rg:=(aB agf (aB agd c!))
def Fb:Fun:=bC b! (kp [0,2]) Tryz.f34.ntmps [.tmp 2] adS
theorem as5(a:V)(h:Hp):Fb [a] h=aU b! [.tmp 2] (adS (ss 0 a T.nil) h):=kR
theorem ad9:aG b! aH 34 Fb:=prX aO [] [(1,[0,1,0,4,12,28,60,127,255],fM [0,18,32,48,64,80,100,112,128])] (aW alb bF) Tryz.func34
def aaT:=rC 6 .aQ
def aaS:=r1 7 2 λa h=>xK [a] h
def aaR:Rg:=λf h=>gtO (ge 7 f) λa=>aA (nT [a] h) λb c=>a! f c
def aaQ:=rC 8 .aQ
def aaP:Rg:=λf h=>gtO (ge 7 f) λa=>aA (ou [a] h) λb c=>aA (aZ 2 b c) λd i=>a! (ss 18 (Y U 0) (ss 17 d (ss 16 b f))) i
def aaO:=r2 19 18 17 λa b h=>aJ .lss .none a b h
def aaN:Rg:=λf h=>gtO (ge 16 f) λa=>gtO (ge 18 f) λb=>aA (bJ 1 a b h) λc d=>aA (aF c d) λi j=>a! (ss 10 i f) j
def aaM:Rg:=λf h=>gtO (ge 0 f) λa=>gtO (ge 10 f) λb=>aA (Ea [a,b] (aI 0 h)) λc d=>gtO (ge 0 f) λi=>aA (aN i d) λj _=>aA (aC 10 j d) λm _=>aA (aF m d) λn _=>chk (λh=>aF m h) n ( gtO (ge 1 f) λo=>aA (bJ 6 n c d) λp _=>aA (aC 5 p d) λq _=>aA (aT 1 q o d) λ_ r=>a! f r) 1 [(aI 0 h)]
def aaL:Rg:=λf h=>gtO (ge 8 f) λa=>gtO (ge 1 f) λb=>gtO (ge 10 f) λc=>aA (bQ [(Y U 0),(Y U 0),(Y U 0),(Y U 0)] [(0,1,b),(1,1,(Y U 1)),(2,1,c),(3,1,(Y U 2))] h) λd i=>aA (bY 85 [(Y U 0),(Y U 0),(Y U 0),(Y U 0)] 1 [(0,4,d)] i) λj m=>aA (cZ 85 4 32 a j m) λn o=>a! (ss 8 n f) o
def aaK:=r1 18 18 λa h=>aJ .add .none a (Y U 1) h
def WQ:Rg:=λf h=>gtO (ge 8 f) λa=>aA (aZ 2 a h) λb c=>aA (aZ 2 a c) λd i=>aA (eY 4 a none (some b) (some d) i) λj m=>a! (ss 6 j f) m
def abK:Rg:=(aB aaO (aB (aV (.tmp 19) a! (Out.ex 0)) (aB (bK 1 (aB aaN (aB aaM aaL))) aaK)))
def U4:Rg:=(aB aaT (aB aaS (aB aaR (aB aaQ (aB (aB aaP (bK 0 (dI abK lf))) (aB WQ c!))))))
def xX:Fun:=bC b! (kp [0,1,2,6,7,8,10,16,17,18,19]) Tryz.f39.ntmps [.tmp 6] U4
theorem am7(a b c:V)(h:Hp):xX [a,b,c] h=aU b! [.tmp 6] (U4 (ss 2 c (ss 1 b (ss 0 a T.nil))) h):=kR
theorem VB:aG b! aH 39 xX:=prX aO [] [(7,[0,1,3,7,0,0,48,0,255,511,1023],fM [64,80,98,0,16,32,52,112,128,144,162])] (aW abE (aW aea (aW Uh (aW ZN bF)))) Tryz.func39
def af7:=rC 2 (Y U 0)
def af6:Rg:=λf h=>gtO (ge 0 f) λa=>aA (aN a h) λb c=>aA (aC 9 b c) λd i=>aA (XK [d,(Y U 1)] i) λj m=>a! (ss 2 j f) m
def adQ:Rg:=(aB af7 (aB af6 c!))
def E8:Fun:=bC b! (kp [0,2]) Tryz.f35.ntmps [.tmp 2] adQ
theorem as2(a:V)(h:Hp):E8 [a] h=aU b! [.tmp 2] (adQ (ss 0 a T.nil) h):=kR
theorem ad8:aG b! aH 35 E8:=prX aO [] [] (aW aBe bF) Tryz.func35
def aaJ:Rg:=λf h=>gtO (ge 0 f) λa=>aA (fO 24 a h) λb c=>a! (ss 5 (K false) (ss 4 .aQ (ss 2 b f))) c
def aaI:=r1 6 1 λa h=>xK [a] h
def aaH:Rg:=λf h=>gtO (ge 6 f) λa=>aA (nT [a] h) λb c=>a! f c
def aaG:=r1 6 6 λa h=>ou [a] h
def aaF:Rg:=λf h=>gtO (ge 6 f) λa=>gtO (ge 2 f) λb=>aA (eP (.func 102) [] [b] h) λc d=>aA (jb [a,c] d) λi j=>aA (oUn .not i j) λm n=>a! (ss 5 m (ss 4 a f)) n
def U3:Rg:=(aB aaJ (aB aaI (aB aaH (aB aaG (aB aaF c!)))))
def KA:Fun:=bC b! (kp [0,1,2,4,5,6]) Tryz.f45.ntmps [.tmp 4,.tmp 5] U3
theorem am6(a b:V)(h:Hp):KA [a,b] h=aU b! [.tmp 4,.tmp 5] (U3 (ss 1 b (ss 0 a T.nil)) h):=kR
theorem aub:aG b! aH 45 KA:=prX aO [] [] (aW abE (aW aea (aW Uh (aW H6 bF)))) Tryz.func45
def aa2:Rg:=λf h=>aA (fC 106 [(Y U 0),(Y U 0)] h) λa b=>a! (ss 4 a f) b
def aa1:Rg:=λf h=>gtO (ge 0 f) λa=>gtO (ge 1 f) λb=>aA (Ea [a,b] (aI 0 h)) λc d=>gtO (ge 0 f) λi=>aA (aN i d) λj _=>aA (aC 10 j d) λm _=>aA (aF m d) λn _=>chk (λh=>aF m h) n ( aA (bJ 6 n c d) λo _=>a! (ss 5 o f) d) 1 [(aI 0 h)]
def aa0:Rg:=λf h=>gtO (ge 5 f) λa=>aA (aN a h) λb c=>aA (aC 4 b c) λd i=>aA (aF d i) λj m=>aA (aJ .add .none j (Y U 1) m) λn o=>aA (aN a o) λp q=>aA (aC 4 p q) λr s=>aA (aT 1 r n s) λ_ t=>a! f t
def aaZ:Rg:=λf h=>gtO (ge 1 f) λa=>gtO (ge 5 f) λb=>aA (aN b h) λc d=>aA (aC 4 c d) λi j=>aA (aF i j) λm n=>aA (aJ .sub .none m (Y U 1) n) λo p=>aA (bQ [(Y U 0),(Y U 0)] [(0,1,a),(1,1,o)] p) λq r=>gtO (ge 4 f) λs=>aA (aT 2 s q r) λ_ t=>a! f t
def U6:Rg:=(aB aa2 (aB aa1 (aB aa0 (aB aaZ c!))))
def KD:Fun:=bC b! (kp [0,1,4,5]) Tryz.f49.ntmps [.cell 4 106] U6
theorem am9(a b:V)(h:Hp):KD [a,b] h=aU b! [.cell 4 106] (U6 (ss 1 b (ss 0 a T.nil)) h):=kR
theorem aud:aG b! aH 49 KD:=prX aO [] [(1,[0,1,3,7,0,0,48,127,255],fM [64,80,98,0,16,32,52,112,128])] (aW ZN bF) Tryz.func49
def aaE:Rg:=λf h=>gtO (ge 0 f) λa=>aA (fO 40 a h) λb c=>a! (ss 2 .aQ (ss 1 b f)) c
def aaD:=rC 3 .aQ
def aaC:Rg:=λf h=>gtO (ge 1 f) λa=>aA (aC 5 a h) λb c=>aA (aF b c) λd i=>aA (aZ 2 d i) λj m=>a! (ss 9 (Y U 0) (ss 8 j (ss 7 d f))) m
def aaB:=r2 10 9 8 λa b h=>aJ .lss .none a b h
def aaA:Rg:=λf h=>gtO (ge 7 f) λa=>gtO (ge 9 f) λb=>aA (bJ 2 a b h) λc d=>aA (bT 2 c d) λi j=>aA (fC 106 [(Y U 0),(Y U 0)] j) λm n=>aA (aT 2 m i n) λ_ o=>a! (ss 5 m f) o
def aaz:Rg:=λf h=>gtO (ge 3 f) λa=>gtO (ge 5 f) λb=>aA (aC 0 b h) λc d=>aA (aF c d) λi j=>aA (bY 3 [(Y U 0)] 1 [(0,1,i)] j) λm n=>aA (cZ 3 1 8 a m n) λo p=>a! (ss 3 o f) p
def aay:=r1 9 9 λa h=>aJ .add .none a (Y U 1) h
def aax:=rM 2 3
def abJ:Rg:=(aB aaB (aB (aV (.tmp 10) a! (Out.ex 0)) (aB (bK 1 (aB aaA aaz)) aay)))
def U2:Rg:=(aB aaE (aB aaD (aB (aB aaC (bK 0 (dI abJ lf))) (aB aax c!))))
def xW:Fun:=bC b! (kp [0,1,2,3,5,7,8,9,10]) Tryz.f37.ntmps [.tmp 2] U2
theorem am5(a:V)(h:Hp):xW [a] h=aU b! [.tmp 2] (U2 (ss 0 a T.nil) h):=kR
theorem ag8:aG b! aH 37 xW:=prX aO [] [] bF Tryz.func37
def UX:=rC 6 (Y U 0)
def UW:=r1 14 0 λa h=>aJ .eql (.ptr 16) a .bP h
def UU:=r2 7 0 1 λa b h=>MN [a,b] h
def UR:=r1 19 7 λa h=>aJ .lss .none a (Y U 0) h
def UQ:Rg:=λf h=>gtO (ge 2 f) λa=>aA (MX [a] h) λb c=>aA (dA 0 b c) λd i=>aA (dA 1 b i) λj m=>a! (ss 9 j (ss 8 d f)) m
def UO:=r1 25 9 λa h=>aJ .neq .none a (Y U 0) h
def UN:Rg:=λf h=>gtO (ge 8 f) λa=>gtO (ge 0 f) λb=>aA (aN b h) λc d=>aA (aC 11 c d) λi j=>aA (aF i j) λm n=>gtO (ge 7 f) λo=>aA (bJ 8 m o n) λp q=>aA (aC 4 p q) λr s=>aA (aF r s) λt u=>aA (wX [a,t] u) λv w=>a! (ss 29 v f) w
def Rf:=r1 40 0 λa h=>Fb [a] h
def Q9:=r1 10 0 λa h=>E8 [a] h
def Q8:Rg:=λf h=>gtO (ge 0 f) λa=>aA (aN a h) λb c=>aA (aC 11 b c) λd i=>aA (aF d i) λj m=>gtO (ge 7 f) λn=>aA (bJ 8 j n m) λo p=>a! (ss 11 o f) p
def Q7:=rC 12 .aQ
def Q5:Rg:=λf h=>gtO (ge 8 f) λa=>aA (jZ [a,(H [36,115,101,101,110])] (aI 0 h)) λb c=>gtO (ge 11 f) λd=>aA (aN d c) λi _=>aA (aC 4 i c) λj _=>aA (aF j c) λm _=>chk (λh=>aF j h) m ( aA (jZ [m,(H [36,115,101,101,110])] c) λn o=>aA (aJ .neq .bool b n o) λp _=>a! (ss 58 p f) o) 1 [(aI 0 h)]
def adh:Rg:=λf h=>gtO (ge 11 f) λa=>aA (aN a h) λb c=>aA (bT 8 b c) λd i=>aA (xW [d] i) λj m=>a! (ss 12 j f) m
def QZ:Rg:=λf h=>gtO (ge 11 f) λa=>gtO (ge 8 f) λb=>gtO (ge 10 f) λc=>aA (aN a h) λd i=>aA (aC 4 d i) λj m=>aA (aT 1 j b m) λ_ n=>aA (aN a n) λo p=>aA (aC 6 o p) λq r=>aA (aT 1 q c r) λ_ s=>a! f s
def QY(fr:F)(h:Hp):Out:=
 gtO (ge 0 fr) λa=>gtO (ge 10 fr) λb=>gtO (ge 12 fr) λc=>aA (xX [a,b,c] (aI 1 h)) λd i=>
 gtO (ge 10 fr) λj=>gtO (ge 1 fr) λm=>aA (bQ [(Y U 0),(Y U 0),(Y U 0),(Y U 0)] [(0,1,j),(1,1,(Y U 2)),(2,1,m),(3,1,(Y U 2))] i) λn _=>
 FQ (eH 85 [(Y U 0),(Y U 0),(Y U 0),(Y U 0)] 1 [(0,4,n)]) λf e=>
 aA (cZ 85 4 32 d (e (Hp.next h)) (Hp.put i (Hp.next h) (some f))) λo p=>
 gtO (ge 0 fr) λq=>aA (aN q p) λr _=>
 aA (aC 12 r p) λs _=>
 aA (aF s p) λt _=>chk (λh=>aF s h) t (
 aA (Eb [t,o] p) λu v=>
 a! fr v) 2 [i,(aI 1 h)]
def QX:=rC 6 (Y U 0)
def Uf:Rg:=(aB UX (aB (aB UW (aV (.tmp 14) zz a!)) (aB UU (aB (aB UR (aV (.tmp 19) zz a!)) (aB UQ (aB (bK 0 (aB UO (aV (.tmp 25) zz (aB UN (aV (.tmp 29) zz (aB Rf (aV (.tmp 40) zz a!))))))) (aB Q9 (aB Q8 (aB Q7 (aB (aB Q5 (aV (.tmp 58) adh a!)) (aB QZ (aB QY (aB QX c!)))))))))))))
def MO:Fun:=bC b! (kp [0,1,2,6,7,8,9,10,11,12,14,19,25,29,40,58]) Tryz.f11.ntmps [.tmp 6] Uf
theorem as4(a b c:V)(h:Hp):MO [a,b,c] h=aU b! [.tmp 6] (Uf (ss 2 c (ss 1 b (ss 0 a T.nil))) h):=kR
theorem aA1:aG b! aH 11 MO:=prX aO [2,5,8,10,12] [(16,[0,1,0,4,12,28,63,127],fM [0,18,32,48,64,84,98,112]),(19,[0,1,3,7,0,0,0,112,0,0,768,1792,4080,8191],fM [64,80,96,114,128,144,160,177,194,0,16,32,53,210])] (aW aot (aW aow (aW ait (aW ad9 (aW ad8 (aW IW (aW ag8 (aW VB (aW aiw bF))))))))) Tryz.func11
def JC:=rC 4 (Y U 0)
def JB:=r1 10 0 λa h=>aJ .eql (.ptr 16) a .bP h
def JA:=r2 5 0 1 λa b h=>MN [a,b] h
def Jz:=r1 14 5 λa h=>aJ .lss .none a (Y U 0) h
def Jy:=r1 17 0 λa h=>Fb [a] h
def Jw:=r1 6 0 λa h=>E8 [a] h
def Jv:Rg:=λf h=>gtO (ge 0 f) λa=>aA (aN a h) λb c=>aA (aC 11 b c) λd i=>aA (aF d i) λj m=>gtO (ge 5 f) λn=>aA (bJ 8 j n m) λo p=>aA (bT 8 o p) λq r=>aA (fC 40 [(Y U 0),(Y U 0),(H []),(Y U 0),.aQ,.aQ,(Y U 0),(Y U 0)] r) λs t=>aA (aT 8 s q t) λ_ u=>a! (ss 7 s f) u
def F9:Rg:=λf h=>gtO (ge 0 f) λa=>aA (aN a h) λb c=>aA (aC 11 b c) λd i=>aA (aF d i) λj m=>gtO (ge 5 f) λn=>aA (aJ .add .none n (Y U 1) m) λo p=>aA (y8 [j,n,o] p) λq r=>aA (aN a r) λs t=>aA (aC 11 s t) λu v=>aA (aT 1 u q v) λ_ w=>a! f w
def F8:Rg:=λf h=>gtO (ge 0 f) λa=>aA (aN a (aI 0 h)) λb _=>aA (aC 15 b (aI 0 h)) λc _=>aA (aF c (aI 0 h)) λd _=>gtO (ge 7 f) λi=>aA (aC 2 i (aI 0 h)) λj _=>aA (aF j (aI 0 h)) λm _=>aA (aZ 1 m (aI 0 h)) λn _=>aA (aJ .sub .none d n (aI 0 h)) λo _=>aA (aN a (aI 0 h)) λp _=>aA (aC 15 p (aI 0 h)) λq _=>aA (aT 1 q o (aI 0 h)) λ_ r=>a! f r
def F7:=rC 8 (Y U 3)
def F6:Rg:=λf h=>gtO (ge 0 f) λa=>aA (aN a h) λb c=>aA (aC 11 b c) λd i=>aA (aF d i) λj m=>gtO (ge 7 f) λn=>aA (eP (.func 52) [] [n] m) λo p=>aA (oq [j,o] p) λq r=>a! (ss 55 q f) r
def TM:=rC 8 (Y U 2)
def FZ(fr:F)(h:Hp):Out:=
 gtO (ge 7 fr) λa=>aA (bT 8 a (aI 1 h)) λb _=>
 aA (xW [b] (aI 1 h)) λc d=>
 gtO (ge 0 fr) λi=>gtO (ge 6 fr) λj=>aA (xX [i,j,c] d) λm n=>
 gtO (ge 6 fr) λo=>gtO (ge 1 fr) λp=>aA (bQ [(Y U 0),(Y U 0),(Y U 0),(Y U 0)] [(0,1,o),(1,1,(Y U 2)),(2,1,p),(3,1,(Y U 3))] n) λq _=>
 gtO (ge 6 fr) λr=>gtO (ge 7 fr) λs=>aA (aC 1 s n) λt _=>
 aA (aF t n) λu _=>chk (λh=>aF t h) u (
 gtO (ge 8 fr) λv=>aA (bQ [(Y U 0),(Y U 0),(Y U 0),(Y U 0)] [(0,1,r),(1,1,(Y U 3)),(2,1,u),(3,1,v)] n) λw _=>
 FQ (eH 85 [(Y U 0),(Y U 0),(Y U 0),(Y U 0),(Y U 0),(Y U 0),(Y U 0),(Y U 0)] 2 [(0,4,q),(4,4,w)]) λf e=>
 aA (cZ 85 4 32 m (e (Hp.next h)) (Hp.put n (Hp.next h) (some f))) λx y=>
 gtO (ge 0 fr) λz=>aA (aN z y) λl _=>
 aA (aC 12 l y) λg _=>
 aA (aF g y) λk _=>chk (λh=>aF g h) k (
 aA (Eb [k,x] y) λC B=>
 a! fr B) 3 [n,d,(aI 1 h)]) 2 [d,(aI 1 h)]
def FY:=rC 4 (Y U 0)
def GZ:Rg:=(aB JC (aB (aB JB (aV (.tmp 10) zz a!)) (aB JA (aB (bK 0 (aB Jz (aV (.tmp 14) zz (aB Jy (aV (.tmp 17) zz a!))))) (aB Jw (aB Jv (aB F9 (aB F8 (aB F7 (aB (aB F6 (aV (.tmp 55) TM a!)) (aB FZ (aB FY c!))))))))))))
def Aq:Fun:=bC b! (kp [0,1,4,5,6,7,8,10,14,17,55]) Tryz.f21.ntmps [.tmp 4] GZ
theorem alx(a b:V)(h:Hp):Aq [a,b] h=aU b! [.tmp 4] (GZ (ss 1 b (ss 0 a T.nil)) h):=kR
theorem asP:aG b! aH 21 Aq:=prX aO [2,5,7] [(11,[0,1,3,7,0,16,48,127,255,511,1023],fM [0,16,32,51,64,83,96,112,128,144,162]),(15,[0,1,3,7,0,0,0,64,240,0,0,1536,0,0,8192,0,61440,130560,262128,524287],fM [99,114,64,80,130,144,160,176,192,208,229,240,256,273,290,0,16,32,54,306])] (aW aot (aW ad9 (aW ad8 (aW ald (aW XD (aW ag8 (aW VB (aW aiw bF)))))))) Tryz.func21
def agl:=rC 2 .bP
def agk:=r1 5 0 λa h=>aJ .eql (.ptr 16) a .bP h
def agj(fr:F)(h:Hp):Out:=
 gtO (ge 0 fr) λa=>aA (wS [a] (aI 1 h)) λb c=>
 gtO (ge 0 fr) λd=>aA (jO [d] c) λi j=>
 gtO (ge 0 fr) λm=>aA (aN m j) λn _=>
 aA (aC 12 n j) λo _=>
 aA (aF o j) λp _=>chk (λh=>aF o h) p (
 aA (Ul [p] j) λq r=>
 gtO (ge 0 fr) λs=>aA (aN s r) λt _=>
 aA (aC 0 t r) λu _=>
 aA (bT 9 u r) λv _=>chk (λh=>bT 9 u h) v (
 gtO (ge 0 fr) λw=>aA (aN w r) λx _=>
 aA (aC 13 x r) λy _=>
 aA (aF y r) λz _=>chk (λh=>aF y h) z (
 gtO (ge 0 fr) λC=>aA (aN C r) λE _=>
 aA (aC 14 E r) λg _=>
 aA (aF g r) λk _=>chk (λh=>aF g h) k (
 gtO (ge 0 fr) λG=>aA (aN G r) λI _=>
 aA (aC 15 I r) λl _=>
 aA (aF l r) λB _=>chk (λh=>aF l h) B (
 aA (bQ [(H []),(H []),(Y U 0),(Y U 0),(Y U 0),(Y U 0),(Y U 0),(Y U 0),(Y U 0),(Y U 0),.aQ,.aQ,.bP,(Y U 0),(Y U 0),(Y U 0)] [(0,9,v),(10,1,b),(11,1,i),(12,1,q),(13,1,z),(14,1,k),(15,1,B)] r) λJ _=>
 FQ (ahS 78 J) λf e=>
 a! (ss 3 (e (Hp.next h)) fr) (Hp.put r (Hp.next h) (some f))) 3 [j,c,(aI 1 h)]) 3 [j,c,(aI 1 h)]) 3 [j,c,(aI 1 h)]) 3 [j,c,(aI 1 h)]) 2 [c,(aI 1 h)]
def agi:Rg:=λf h=>gtO (ge 0 f) λa=>aA (aN a (aI 0 h)) λb _=>aA (aC 9 b (aI 0 h)) λc _=>aA (vN [c] (aI 0 h)) λd i=>gtO (ge 3 f) λj=>aA (aN j i) λm _=>aA (aC 9 m i) λn _=>aA (pI [n,d] i) λo p=>a! f p
def agh:=rM 2 3
def adT:Rg:=(aB agl (aB (aB agk (aV (.tmp 5) zz a!)) (aB agj (aB agi (aB agh c!)))))
def Fe:Fun:=bC b! (kp [0,2,3,5]) Tryz.f252.ntmps [.tmp 2] adT
theorem as6(a:V)(h:Hp):Fe [a] h=aU b! [.tmp 2] (adT (ss 0 a T.nil) h):=kR
theorem aou:aG b! aH 252 Fe:=prX aO [2] [(3,[0,1,3,7,0,16,0,112,0,256,768,1792,4080,0,8192,24576,57344,0,131072,393216,917504,0,2097152,6291456,14680064,33554431,67108863,134217727],fM [64,82,96,114,128,144,160,181,194,0,16,32,54,208,224,240,262,272,288,304,326,336,352,368,390,400,417,432]),(4,[0,1,3,0,8,24,56,127],fM [48,64,80,98,0,16,32,114])] (aW OZ (aW OY (aW aA5 (aW Ui (aW O1 bF))))) Tryz.func252
def aky:=r1 4 1 λa h=>Fe [a] h
def akx(fr:F)(h:Hp):Out:=
 gtO (ge 0 fr) λa=>gtO (ge 4 fr) λb=>aA (aN b (aI 0 h)) λc _=>
 aA (aC 10 c (aI 0 h)) λd _=>
 aA (aF d (aI 0 h)) λi _=>
 gtO (ge 4 fr) λj=>aA (aN j (aI 0 h)) λm _=>
 aA (aC 11 m (aI 0 h)) λn _=>
 aA (aF n (aI 0 h)) λo _=>
 gtO (ge 4 fr) λp=>aA (aN p (aI 0 h)) λq _=>
 aA (aC 12 q (aI 0 h)) λr _=>
 aA (aF r (aI 0 h)) λs _=>
 gtO (ge 4 fr) λt=>aA (aN t (aI 0 h)) λu _=>
 aA (aC 13 u (aI 0 h)) λv _=>
 aA (aF v (aI 0 h)) λw _=>
 gtO (ge 4 fr) λx=>aA (aN x (aI 0 h)) λy _=>
 aA (aC 14 y (aI 0 h)) λz _=>
 aA (aF z (aI 0 h)) λB _=>
 gtO (ge 4 fr) λC=>aA (aN C (aI 0 h)) λE _=>
 aA (aC 15 E (aI 0 h)) λG _=>
 aA (aF G (aI 0 h)) λI _=>
 aA (aN a (aI 0 h)) λJ _=>
 aA (aC 10 J (aI 0 h)) λL _=>
 aA (aT 1 L i (aI 0 h)) λ_ e=>
 gtO (ge 0 fr) λM=>aA (aN M e) λP _=>
 aA (aC 11 P e) λQ _=>
 aA (aT 1 Q o e) λ_ f=>
 gtO (ge 0 fr) λS=>aA (aN S f) λW _=>
 aA (aC 12 W f) λZ _=>
 aA (aT 1 Z s f) λ_ g=>
 gtO (ge 0 fr) λaq=>aA (aN aq g) λar _=>
 aA (aC 13 ar g) λau _=>
 aA (aT 1 au w g) λ_ k=>
 gtO (ge 0 fr) λaw=>aA (aN aw k) λax _=>
 aA (aC 14 ax k) λay _=>
 aA (aT 1 ay B k) λ_ l=>
 gtO (ge 0 fr) λba=>aA (aN ba l) λbb _=>
 aA (aC 15 bb l) λbc _=>
 aA (aT 1 bc I l) λ_ bd=>
 a! fr bd
def akw:Rg:=λf h=>gtO (ge 4 f) λa=>aA (aN a (aI 0 h)) λb _=>aA (aC 9 b (aI 0 h)) λc _=>aA (vN [c] (aI 0 h)) λd i=>gtO (ge 0 f) λj=>aA (aN j i) λm _=>aA (aC 9 m i) λn _=>aA (pI [n,d] i) λo p=>a! f p
def ail:Rg:=(aB aky (aB akx akw))
def SH:Fun:=bC b! (kp [0,1,4]) Tryz.f253.ntmps [] ail
theorem auq(a b:V)(h:Hp):SH [a,b] h=aU b! [] (ail (ss 1 b (ss 0 a T.nil)) h):=kR
theorem aDq:aG b! aH 253 SH:=prX aO [] [(1,[0,0,0,0,0,0,0,64,192,448,0,1024,3072,7168,0,16384,49152,114688,0,262144,786432,1835008,0,4194304,12582912,29360128,0,67108864,201326592,469762048,1073741761,2147483585,4294967233,8589934531,17179869123,34359738307,68719476679,137438953415,274877906887,549755813839,1099511627727,2199023255503,4398046511071,8796093022175,17592186044383,35184372088831,70368744177663,140737488355327],fM [0,96,112,128,147,160,176,192,211,224,240,256,275,288,304,320,339,352,368,384,403,416,432,448,467,480,496,514,16,528,544,562,32,576,592,610,48,624,640,658,64,672,688,706,80,720,736,754]),(2,[0,1,3,0,8,24,56,127],fM [48,64,80,98,0,16,32,114])] (aW aou (aW Ui (aW O1 bF))) Tryz.func253
def aaw:=rC 4 .aQ
def aav:=rC 5 .aQ
def aau:Rg:=λf h=>gtO (ge 0 f) λa=>aA (jO [a] h) λb c=>aA (aZ 2 b c) λd i=>a! (ss 13 (Y U 0) (ss 12 d (ss 11 b f))) i
def aat:=r2 14 13 12 λa b h=>aJ .lss .none a b h
def aas:Rg:=λf h=>gtO (ge 11 f) λa=>gtO (ge 13 f) λb=>aA (bJ 8 a b h) λc d=>aA (bT 8 c d) λi j=>aA (fC 40 [(Y U 0),(Y U 0),(H []),(Y U 0),.aQ,.aQ,(Y U 0),(Y U 0)] j) λm n=>aA (aT 8 m i n) λ_ o=>a! (ss 7 m f) o
def aar:Rg:=λf h=>gtO (ge 7 f) λa=>aA (aC 5 a h) λb c=>aA (aF b c) λd i=>aA (aZ 2 d i) λj m=>a! (ss 20 (Y U 0) (ss 19 j (ss 18 d f))) m
def aaq:=r2 21 20 19 λa b h=>aJ .lss .none a b h
def Nq:Rg:=λf h=>gtO (ge 18 f) λa=>gtO (ge 20 f) λb=>aA (bJ 2 a b h) λc d=>aA (bT 2 c d) λi j=>aA (fC 106 [(Y U 0),(Y U 0)] j) λm n=>aA (aT 2 m i n) λ_ o=>a! (ss 9 m f) o
def Np:Rg:=λf h=>gtO (ge 9 f) λa=>aA (aC 0 a h) λb c=>aA (aF b c) λd i=>gtO (ge 1 f) λj=>aA (aJ .eql .none d j i) λm n=>a! (ss 27 m f) n
def aap:Rg:=λf h=>gtO (ge 5 f) λa=>gtO (ge 9 f) λb=>aA (aC 1 b h) λc d=>aA (aF c d) λi j=>gtO (ge 7 f) λm=>aA (bT 8 m j) λn o=>aA (bQ [(Y U 0),(Y U 0),(Y U 0),(H []),(Y U 0),.aQ,.aQ,(Y U 0),(Y U 0)] [(0,1,i),(1,8,n)] o) λp q=>aA (bY 250 [(Y U 0),(Y U 0),(Y U 0),(H []),(Y U 0),.aQ,.aQ,(Y U 0),(Y U 0)] 1 [(0,9,p)] q) λr s=>aA (cZ 250 9 112 a r s) λt u=>a! (ss 5 t f) u
def WG:=r1 20 20 λa h=>aJ .add .none a (Y U 1) h
def WC:=r1 13 13 λa h=>aJ .add .none a (Y U 1) h
def WB:Rg:=λf h=>gtO (ge 5 f) λa=>aA (sV [a,(.func (.func 284) .nil .nil)] h) λb c=>a! f c
def WA:=rM 4 5
def abH:Rg:=(aB aaq (aB (aV (.tmp 21) a! (Out.ex 2)) (aB (bK 3 (aB Nq (aB Np (aV (.tmp 27) aap a!)))) WG)))
def abI:Rg:=(aB aat (aB (aV (.tmp 14) a! (Out.ex 0)) (aB (bK 1 (aB aas (aB aar (bK 2 (dI abH lf))))) WC)))
def UZ:Rg:=(aB aaw (aB aav (aB (aB aau (bK 0 (dI abI lf))) (aB WB (aB WA c!)))))
def xU:Fun:=bC b! (kp [0,1,4,5,7,9,11,12,13,14,18,19,20,21,27]) Tryz.f175.ntmps [.tmp 4] UZ
theorem am4(a b:V)(h:Hp):xU [a,b] h=aU b! [.tmp 4] (UZ (ss 1 b (ss 0 a T.nil)) h):=kR
theorem ag6:aG b! aH 175 xU:=prX aO [] [] (aW OY (aW aeb bF)) Tryz.func175
def akv:Rg:=λf h=>gtO (ge 1 f) λa=>aA (fO 250 a h) λb c=>a! (ss 3 b f) c
def aku:Rg:=λf h=>gtO (ge 3 f) λa=>aA (aC 0 a h) λb c=>aA (aF b c) λd i=>aA (aC 1 a i) λj m=>aA (aC 0 j m) λn o=>aA (aF n o) λp q=>aA (bQ [(Y U 0)] [] q) λr s=>aA (fO 75 r s) λt u=>aA (bQ [(Y U 0),(Y U 0),.bP] [(0,1,d),(1,1,p),(2,1,t)] u) λv w=>aA (fC 248 [(Y U 0),(Y U 0),.bP] w) λx y=>aA (aT 3 x v y) λ_ z=>a! (ss 4 x f) z
def akt:Rg:=λf h=>gtO (ge 4 f) λa=>aA (aC 2 a h) λb c=>aA (aF b c) λd i=>gtO (ge 3 f) λj=>aA (aC 1 j i) λm n=>aA (aC 6 m n) λo p=>aA (aF o p) λq r=>aA (pI [d,q] r) λs t=>a! f t
def aks(fr:F)(h:Hp):Out:=
 gtO (ge 0 fr) λa=>aA (aN a (aI 1 h)) λb _=>
 aA (aC 1 b (aI 1 h)) λc _=>
 aA (aF c (aI 1 h)) λd _=>
 gtO (ge 4 fr) λi=>aA (bT 3 i (aI 1 h)) λj _=>
 FQ (eH 248 [(Y U 0),(Y U 0),.bP] 1 [(0,3,j)]) λf e=>
 aA (cZ 248 3 24 d (e (Hp.next h)) (Hp.put (aI 1 h) (Hp.next h) (some f))) λm n=>
 gtO (ge 0 fr) λo=>aA (aN o n) λp _=>
 aA (aC 1 p n) λq _=>
 aA (aT 1 q m n) λ_ r=>
 a! fr r
def akr:Rg:=λf h=>gtO (ge 0 f) λa=>gtO (ge 0 f) λb=>aA (aN b (aI 0 h)) λc _=>aA (aC 2 c (aI 0 h)) λd _=>aA (aF d (aI 0 h)) λi _=>gtO (ge 3 f) λj=>aA (aC 0 j (aI 0 h)) λm _=>aA (aF m (aI 0 h)) λn _=>aA (aqj i n (aI 0 h)) λo _=>aA (aN a (aI 0 h)) λp _=>aA (aC 2 p (aI 0 h)) λq _=>aA (aT 1 q o (aI 0 h)) λ_ r=>a! f r
def aik:Rg:=(aB akv (aB aku (aB akt (aB aks akr))))
def ZY:Fun:=bC b! (kp [0,1,3,4]) Tryz.f181.ntmps [] aik
theorem aup(a b:V)(h:Hp):ZY [a,b] h=aU b! [] (aik (ss 1 b (ss 0 a T.nil)) h):=kR
theorem aDp:aG b! aH 181 ZY:=prX aO [] [(3,[0,0,2,6,14,0,32,126,255,511,1023],fM [16,32,48,67,83,97,114,0,128,144,162]),(4,[0,0,2,6,14,0,32,126,255,511,1023],fM [0,16,32,48,67,80,99,112,128,144,162])] (aW O1 bF) Tryz.func181
def ake:Rg:=λf h=>gtO (ge 1 f) λa=>aA (fO 3 a h) λb c=>a! (ss 5 (Y U 0) (ss 4 .bP (ss 3 b f))) c
def akd:=r1 9 0 λa h=>aJ .eql (.ptr 16) a .bP h
def akc:Rg:=λf h=>gtO (ge 0 f) λa=>aA (wS [a] h) λb c=>gtO (ge 3 f) λd=>aA (eP (.func 290) [] [d] c) λi j=>aA (lI [b,i] j) λm n=>aA (oUn .not m n) λo p=>a! (ss 12 o f) p
def akb:Rg:=λf h=>gtO (ge 3 f) λa=>aA (aF a h) λb c=>aA (bQ [(Y U 0),.aQ,(Y U 0)] [(0,1,b)] c) λd i=>aA (fO 246 d i) λj m=>a! (ss 6 j f) m
def aj9:Rg:=λf h=>gtO (ge 0 f) λa=>gtO (ge 3 f) λb=>aA (aF b h) λc d=>aA (xU [a,c] d) λi j=>aA (aZ 2 i j) λm n=>a! (ss 25 (Y U 0) (ss 24 m (ss 23 i f))) n
def aj8:=r2 26 25 24 λa b h=>aJ .lss .none a b h
def aj7:Rg:=λf h=>gtO (ge 23 f) λa=>gtO (ge 25 f) λb=>aA (bJ 9 a b h) λc d=>aA (bT 9 c d) λi j=>aA (fC 250 [(Y U 0),(Y U 0),(Y U 0),(H []),(Y U 0),.aQ,.aQ,(Y U 0),(Y U 0)] j) λm n=>aA (aT 9 m i n) λ_ o=>a! (ss 8 m f) o
def aj6:Rg:=λf h=>gtO (ge 6 f) λa=>gtO (ge 8 f) λb=>aA (bT 9 b h) λc d=>aA (ZY [a,c] d) λi j=>a! f j
def afL:=r1 25 25 λa h=>aJ .add .none a (Y U 1) h
def afK:Rg:=λf h=>gtO (ge 6 f) λa=>a! (ss 5 (Y U 0) (ss 4 a f)) h
def alm:Rg:=(aB aj8 (aB (aV (.tmp 26) a! (Out.ex 1)) (aB (bK 2 (aB aj7 aj6)) afL)))
def Zx:Rg:=(aB ake (aB (bK 0 (aB akd (aV (.tmp 9) zz (aB akc (aV (.tmp 12) zz a!))))) (aB akb (aB (aB aj9 (bK 1 (dI alm lf))) (aB afK c!)))))
def ZW:Fun:=bC b! (kp [0,1,3,4,5,6,8,9,12,23,24,25,26]) Tryz.f185.ntmps [.tmp 4,.tmp 5] Zx
theorem aum(a b:V)(h:Hp):ZW [a,b] h=aU b! [.tmp 4,.tmp 5] (Zx (ss 1 b (ss 0 a T.nil)) h):=kR
theorem aDn:aG b! aH 185 ZW:=prX aO [2,4] [] (aW OZ (aW ZP (aW ag6 (aW aDp bF)))) Tryz.func185
def akq:=rC 2 (Y U 0)
def akp:=r1 4 0 λa h=>aJ .eql (.ptr 3) a .bP h
def ako:Rg:=λf h=>gtO (ge 0 f) λa=>aA (aN a h) λb c=>aA (aC 0 b c) λd i=>aA (aF d i) λj m=>a! (ss 2 j f) m
def aij:Rg:=(aB akq (aB (aB akp (aV (.tmp 4) zz a!)) (aB ako c!)))
def SE:Fun:=bC b! (kp [0,2,4]) Tryz.f138.ntmps [.tmp 2] aij
theorem auo(a:V)(h:Hp):SE [a] h=aU b! [.tmp 2] (aij (ss 0 a T.nil) h):=kR
theorem asL:aG b! aH 138 SE:=prX aO [2] [] bF Tryz.func138
def afH:=rC 2 .aQ
def afG:=r1 7 0 λa h=>aJ .eql (.ptr 3) a .bP h
def afF:=rC 3 .aQ
def afE:Rg:=λf h=>gtO (ge 0 f) λa=>aA (aN a h) λb c=>aA (aC 1 b c) λd i=>aA (aF d i) λj m=>aA (aZ 2 j m) λn o=>a! (ss 13 (Y U 0) (ss 12 n (ss 11 j f))) o
def afD:=r2 14 13 12 λa b h=>aJ .lss .none a b h
def afC:Rg:=λf h=>gtO (ge 11 f) λa=>gtO (ge 13 f) λb=>aA (bJ 3 a b h) λc d=>aA (bT 3 c d) λi j=>aA (fC 248 [(Y U 0),(Y U 0),.bP] j) λm n=>aA (aT 3 m i n) λ_ o=>a! (ss 5 m f) o
def afB:Rg:=λf h=>gtO (ge 3 f) λa=>gtO (ge 5 f) λb=>aA (aC 0 b h) λc d=>aA (aF c d) λi j=>aA (bY 3 [(Y U 0)] 1 [(0,1,i)] j) λm n=>aA (cZ 3 1 8 a m n) λo p=>a! (ss 3 o f) p
def afA:=r1 13 13 λa h=>aJ .add .none a (Y U 1) h
def afz:=rM 2 3
def ahb:Rg:=(aB afD (aB (aV (.tmp 14) a! (Out.ex 0)) (aB (bK 1 (aB afC afB)) afA)))
def adO:Rg:=(aB afH (aB (aB afG (aV (.tmp 7) zz a!)) (aB afF (aB (aB afE (bK 0 (dI ahb lf))) (aB afz c!)))))
def EZ:Fun:=bC b! (kp [0,2,3,5,7,11,12,13,14]) Tryz.f139.ntmps [.tmp 2] adO
theorem asW(a:V)(h:Hp):EZ [a] h=aU b! [.tmp 2] (adO (ss 0 a T.nil) h):=kR
theorem ad7:aG b! aH 139 EZ:=prX aO [2] [] bF Tryz.func139
def akn:=rC 2 .aQ
def akm:=r1 7 0 λa h=>aJ .eql (.ptr 3) a .bP h
def akl:=rC 3 .aQ
def akk:Rg:=λf h=>gtO (ge 0 f) λa=>aA (aN a h) λb c=>aA (aC 1 b c) λd i=>aA (aF d i) λj m=>aA (aZ 2 j m) λn o=>a! (ss 13 (Y U 0) (ss 12 n (ss 11 j f))) o
def akj:=r2 14 13 12 λa b h=>aJ .lss .none a b h
def aki:Rg:=λf h=>gtO (ge 11 f) λa=>gtO (ge 13 f) λb=>aA (bJ 3 a b h) λc d=>aA (bT 3 c d) λi j=>aA (fC 248 [(Y U 0),(Y U 0),.bP] j) λm n=>aA (aT 3 m i n) λ_ o=>a! (ss 5 m f) o
def akh:Rg:=λf h=>gtO (ge 3 f) λa=>gtO (ge 5 f) λb=>aA (aC 1 b h) λc d=>aA (aF c d) λi j=>aA (bY 3 [(Y U 0)] 1 [(0,1,i)] j) λm n=>aA (cZ 3 1 8 a m n) λo p=>a! (ss 3 o f) p
def akg:=r1 13 13 λa h=>aJ .add .none a (Y U 1) h
def akf:=rM 2 3
def aln:Rg:=(aB akj (aB (aV (.tmp 14) a! (Out.ex 0)) (aB (bK 1 (aB aki akh)) akg)))
def aii:Rg:=(aB akn (aB (aB akm (aV (.tmp 7) zz a!)) (aB akl (aB (aB akk (bK 0 (dI aln lf))) (aB akf c!)))))
def ZX:Fun:=bC b! (kp [0,2,3,5,7,11,12,13,14]) Tryz.f221.ntmps [.tmp 2] aii
theorem aun(a:V)(h:Hp):ZX [a] h=aU b! [.tmp 2] (aii (ss 0 a T.nil) h):=kR
theorem aDo:aG b! aH 221 ZX:=prX aO [2] [] bF Tryz.func221
def atj:Fun:=apd
theorem aJZ:aG b! aH 282 atj:=apT Tryz.func282 kR kR kR kR
def ah5:Rg:=λf h=>gtO (ge 0 f) λa=>aA (aN a h) λb c=>aA (aC 0 b c) λd i=>aA (aF d i) λj m=>aA (aJ .eql (.ptr 2) j .bP m) λn o=>a! (ss 6 n f) o
def asi:Rg:=λf h=>gtO (ge 0 f) λa=>aA (alU a h) λb c=>aA (atj [b] c) λd i=>aA (V8 b! 141 d i) λj m=>aA (aN a m) λn o=>aA (aC 0 n o) λp q=>aA (aT 1 p j q) λ_ r=>a! f r
def ash:Rg:=λf h=>gtO (ge 0 f) λa=>aA (aN a h) λb c=>aA (aC 0 b c) λd i=>aA (aF d i) λj m=>aA (aJ .neq (.ptr 2) j a m) λn o=>a! (ss 19 n f) o
def ak6:Rg:=(aB ah5 (aV (.tmp 6) asi (aB ash (aV (.tmp 19) aK5 a!))))
def ael:Fun:=bC b! (kp [0,6,19]) Tryz.f173.ntmps [] ak6
theorem aBj(a:V)(h:Hp):ael [a] h=aU b! [] (ak6 (ss 0 a T.nil) h):=kR
theorem aBd:aG b! aH 173 ael:=prX aO [] [] (aW aJZ bF) Tryz.func173
def asx:Rg:=λf h=>a! (ss 5 .nP (ss 4 (Y U 0) f)) h
def asw:Rg:=λf h=>gtO (ge 0 f) λa=>aA (ael [a] h) λb c=>a! f c
def asv:Rg:=λf h=>gtO (ge 0 f) λa=>aA (aN a h) λb c=>aA (aC 1 b c) λd i=>aA (aF d i) λj m=>gtO (ge 1 f) λn=>aA (cZ 5 1 1 j n m) λo p=>aA (aN a p) λq r=>aA (aC 1 q r) λs t=>aA (aT 1 s o t) λ_ u=>a! f u
def asu:Rg:=λf h=>gtO (ge 1 f) λa=>aA (aZ 1 a h) λb c=>a! (ss 5 .nP (ss 4 b f)) c
def asF:Rg:=(aB asx (aB asw (aB asv (aB asu c!))))
def xM:Fun:=bC b! (kp [0,1,4,5]) Tryz.f96.ntmps [.tmp 4,.tmp 5] asF
theorem aBk(a b:V)(h:Hp):xM [a,b] h=aU b! [.tmp 4,.tmp 5] (asF (ss 1 b (ss 0 a T.nil)) h):=kR
theorem alj:aG b! aH 96 xM:=prX aO [] [] (aW aBd bF) Tryz.func96
def ati:Fun:=acF 5
theorem aJY:aG b! aH 384 ati:=anI (ps:=Tryz.f384.params) Tryz.func384 kR kR kR Tryz.underlying43 kR
def asg:Rg:=λf h=>gtO (ge 0 f) λa=>aA (aN a (aI 0 h)) λb _=>aA (aC 1 b (aI 0 h)) λc _=>aA (aF c (aI 0 h)) λd _=>aA (alW d (aI 0 h)) λi j=>aA (aJ .mul .none (Y U 2) i j) λm _=>gtO (ge 1 f) λn=>aA (aJ .add .none m n j) λo _=>aA (ati [o] j) λp q=>gtO (ge 0 f) λr=>aA (aN r q) λs _=>aA (aC 1 s q) λt _=>aA (aF t q) λu _=>chk (λh=>aF t h) u ( aA (aZ 2 u q) λv _=>aA (eY 1 p none (some v) none q) λw _=>a! (ss 4 w f) q) 2 [j,(aI 0 h)]
def asf:Rg:=λf h=>gtO (ge 4 f) λa=>gtO (ge 0 f) λb=>aA (aN b h) λc d=>aA (aC 1 c d) λi j=>aA (aF i j) λm n=>aA (ajg 1 a m n) λo p=>a! f p
def ase:Rg:=λf h=>gtO (ge 0 f) λa=>gtO (ge 4 f) λb=>aA (aN a h) λc d=>aA (aC 1 c d) λi j=>aA (aT 1 i b j) λ_ m=>a! f m
def asE:Rg:=(aB asg (aB asf ase))
def alB:Fun:=bC b! (kp [0,1,4]) Tryz.f303.ntmps [] asE
theorem aBi(a b:V)(h:Hp):alB [a,b] h=aU b! [] (asE (ss 1 b (ss 0 a T.nil)) h):=kR
theorem aJ0:aG b! aH 303 alB:=prX aO [] [(0,[0,1,3,7,15,31,0,127,255,0,512,1536,3584,7680,16383,32767],fM [0,16,32,51,66,80,96,112,130,144,160,176,197,208,224,240])] (aW aJY bF) Tryz.func303
def ah8:Rg:=λf h=>gtO (ge 0 f) λa=>aA (ael [a] h) λb c=>a! f c
def ah7:=r1 7 1 λa h=>aJ .lss .none a (Y U 0) h
def ah6:Rg:=λf h=>gtO (ge 0 f) λa=>aA (aN a (aI 0 h)) λb _=>aA (aC 1 b (aI 0 h)) λc _=>aA (aF c (aI 0 h)) λd _=>aA (alW d (aI 0 h)) λi j=>gtO (ge 0 f) λm=>aA (aN m j) λn _=>aA (aC 1 n j) λo _=>aA (aF o j) λp _=>chk (λh=>aF o h) p ( aA (aZ 2 p j) λq _=>aA (aJ .sub .none i q j) λr _=>gtO (ge 1 f) λs=>aA (aJ .lss .none r s j) λt _=>a! (ss 21 t f) j) 1 [(aI 0 h)]
def asj:Rg:=λf h=>gtO (ge 0 f) λa=>gtO (ge 1 f) λb=>aA (alB [a,b] h) λc d=>a! f d
def ak8:Rg:=(aB ah8 (aB (aB ah7 (aV (.tmp 7) zz a!)) (aB ah6 (aV (.tmp 21) asj a!))))
def alC:Fun:=bC b! (kp [0,1,7,21]) Tryz.f204.ntmps [] ak8
theorem aoy(a b:V)(h:Hp):alC [a,b] h=aU b! [] (ak8 (ss 1 b (ss 0 a T.nil)) h):=kR
theorem aJ2:aG b! aH 204 alC:=prX aO [2] [(3,[0,1,3,7,15,0,32,96,224,480,1023,0,4095],fM [0,16,32,51,66,80,96,112,132,144,160,176,192])] (aW aBd (aW aJ0 bF)) Tryz.func204
def aia:=rC 2 (H [])
def ah9:Rg:=λf h=>gtO (ge 0 f) λa=>aA (aN a (aI 0 h)) λb _=>aA (aC 1 b (aI 0 h)) λc _=>aA (aF c (aI 0 h)) λd _=>aA (Az d (aI 0 h)) λi j=>gtO (ge 0 f) λm=>aA (aN m j) λn _=>aA (aC 1 n j) λo _=>aA (aF o j) λp _=>chk (λh=>aF o h) p ( aA (aZ 2 p j) λq _=>aA (FC 5 i q j) λr s=>a! (ss 2 r f) s) 1 [(aI 0 h)]
def ak9:Rg:=(aB aia (aB ah9 c!))
def Ir:Fun:=bC b! (kp [0,2]) Tryz.f99.ntmps [.tmp 2] ak9
theorem aoz(a:V)(h:Hp):Ir [a] h=aU b! [.tmp 2] (ak9 (ss 0 a T.nil) h):=kR
theorem asV:aG b! aH 99 Ir:=prX aO [] [(1,[0,1,3,7,15,0,32,96,224,480,1023,2047],fM [0,16,32,51,66,80,96,112,132,144,162,176])] bF Tryz.func99
def XA:=rC 4 (H [])
def Xz:=r1 12 0 λa h=>aZ 2 a h
def Xy:=r1 13 12 λa h=>aJ .eql .none a (Y U 0) h
def awN:=rC 4 (H [])
def ae0:=r1 15 12 λa h=>aJ .eql .none a (Y U 1) h
def awM:Rg:=λf h=>gtO (ge 0 f) λa=>aA (bJ 1 a (Y U 0) h) λb c=>aA (aF b c) λd i=>a! (ss 4 d f) i
def amO:=rC 5 (Y U 0)
def amN:Rg:=λf h=>gtO (ge 1 f) λa=>aA (aZ 1 a h) λb c=>aA (aJ .gtr .none b (Y U 0) c) λd i=>a! (ss 22 d f) i
def awL:Rg:=λf h=>gtO (ge 1 f) λa=>aA (aZ 1 a h) λb c=>gtO (ge 0 f) λd=>aA (aZ 2 d c) λi j=>aA (aJ .sub .none i (Y U 1) j) λm n=>aA (aJ .quo .none (Y U 9223372036854775807) m n) λo p=>aA (aJ .geq .none b o p) λq r=>a! (ss 29 q f) r
def asc:Rg:=λf h=>gtO (ge 5 f) λa=>gtO (ge 1 f) λb=>aA (aZ 1 b h) λc d=>gtO (ge 0 f) λi=>aA (aZ 2 i d) λj m=>aA (aJ .sub .none j (Y U 1) m) λn o=>aA (aJ .mul .none c n o) λp q=>aA (aJ .add .none a p q) λr s=>a! (ss 5 r f) s
def ah1:Rg:=λf h=>gtO (ge 0 f) λa=>aA (aZ 2 a h) λb c=>a! (ss 41 (Y U 0) (ss 40 b (ss 39 a f))) c
def ah0:=r2 42 41 40 λa b h=>aJ .lss .none a b h
def asb:Rg:=λf h=>gtO (ge 39 f) λa=>gtO (ge 41 f) λb=>aA (bJ 1 a b h) λc d=>aA (aF c d) λi j=>a! (ss 7 i f) j
def asa:Rg:=λf h=>gtO (ge 7 f) λa=>aA (aZ 1 a h) λb c=>gtO (ge 5 f) λd=>aA (aJ .sub .none (Y U 9223372036854775807) d c) λi j=>aA (aJ .gtr .none b i j) λm n=>a! (ss 49 m f) n
def ar9:Rg:=λf h=>gtO (ge 5 f) λa=>gtO (ge 7 f) λb=>aA (aZ 1 b h) λc d=>aA (aJ .add .none a c d) λi j=>a! (ss 5 i f) j
def ar8:=r1 41 41 λa h=>aJ .add .none a (Y U 1) h
def ahZ:Rg:=λf h=>aA (fC 141 [.bP,.aQ] h) λa b=>a! (ss 8 a f) b
def ahY:Rg:=λf h=>gtO (ge 5 f) λa=>gtO (ge 8 f) λb=>aA (alC [b,a] h) λc d=>a! f d
def ahX:Rg:=λf h=>gtO (ge 0 f) λa=>aA (bJ 1 a (Y U 0) h) λb c=>aA (aF b c) λd i=>gtO (ge 8 f) λj=>aA (xM [j,d] i) λm n=>a! f n
def ahW:Rg:=λf h=>gtO (ge 0 f) λa=>aA (eY 1 a (some (Y U 1)) none none h) λb c=>aA (aZ 2 b c) λd i=>a! (ss 65 (Y U 0) (ss 64 d (ss 63 b f))) i
def ahV:=r2 66 65 64 λa b h=>aJ .lss .none a b h
def ar7:Rg:=λf h=>gtO (ge 63 f) λa=>gtO (ge 65 f) λb=>aA (bJ 1 a b h) λc d=>aA (aF c d) λi j=>a! (ss 10 i f) j
def ar6:Rg:=λf h=>gtO (ge 1 f) λa=>gtO (ge 8 f) λb=>aA (xM [b,a] h) λc d=>a! f d
def ar5:Rg:=λf h=>gtO (ge 10 f) λa=>gtO (ge 8 f) λb=>aA (xM [b,a] h) λc d=>a! f d
def ar4:=r1 65 65 λa h=>aJ .add .none a (Y U 1) h
def ahU:=r1 4 8 λa h=>Ir [a] h
def ZV:Rg:=(aB ah0 (aB (aV (.tmp 42) a! (Out.ex 1)) (aB (bK 2 (aB asb (aB (aB asa (aV (.tmp 49) zz a!)) ar9))) ar8)))
def ZU:Rg:=(aB ahV (aB (aV (.tmp 66) a! (Out.ex 3)) (aB (bK 4 (aB ar7 (aB ar6 ar5))) ar4)))
def ae2:Rg:=(aB XA (aB (aB Xz (bK 0 (aB Xy (aV (.tmp 13) (aB awN c!) (aB ae0 (aV (.tmp 15) (aB awM c!) a!)))))) (aB amO (aB (aB amN (aV (.tmp 22) (aB (aB awL (aV (.tmp 29) zz a!)) asc) a!)) (aB (aB ah1 (bK 1 (dI ZV lf))) (aB ahZ (aB ahY (aB ahX (aB (aB ahW (bK 3 (dI ZU lf))) (aB ahU c!))))))))))
def ae6:Fun:=bC b! (kp [0,1,4,5,7,8,10,12,13,15,22,29,39,40,41,42,49,63,64,65,66]) Tryz.f128.ntmps [.tmp 4] ae2
theorem aDA(a b:V)(h:Hp):ae6 [a,b] h=aU b! [.tmp 4] (ae2 (ss 1 b (ss 0 a T.nil)) h):=kR
theorem ayM:aG b! aH 128 ae6:=prX aO [9,15] [] (aW aJ2 (aW alj (aW asV bF))) Tryz.func128
def awZ:Rg:=λf h=>gtO (ge 1 f) λa=>aA (ae6 [a,(H [32])] (aI 0 h)) λb c=>gtO (ge 0 f) λd=>aA (aN d c) λi _=>aA (aC 5 i c) λj _=>aA (xM [j,b] c) λm n=>a! f n
def awY:Rg:=λf h=>gtO (ge 0 f) λa=>aA (aN a h) λb c=>aA (aC 5 b c) λd i=>aA (xM [d,(H [13,10])] i) λj m=>a! f m
def ayB:Rg:=(aB awZ awY)
def zi:Fun:=bC b! (kp [0,1]) Tryz.f98.ntmps [] ayB
theorem aDD(a b:V)(h:Hp):zi [a,b] h=aU b! [] (ayB (ss 1 b (ss 0 a T.nil)) h):=kR
theorem ayN:aG b! aH 98 zi:=prX aO [] [(0,[0,1,3,0,8,31],fM [48,66,0,16,32,82])] (aW ayM (aW alj bF)) Tryz.func98
def awQ:Rg:=λf h=>aA (fC 62 [(H []),(H []),(Y U 0),(Y U 0),(Y U 0),(Y U 0),(Y U 0),(Y U 0),(Y U 0)] h) λa b=>a! (ss 2 a f) b
def awP:=r1 4 0 λa h=>aJ .eql (.ptr 16) a .bP h
def awO:Rg:=λf h=>gtO (ge 0 f) λa=>aA (aN a h) λb c=>aA (aC 0 b c) λd i=>aA (bT 9 d i) λj m=>gtO (ge 2 f) λn=>aA (aT 9 n j m) λ_ o=>a! f o
def ayz:Rg:=(aB awQ (aB (aB awP (aV (.tmp 4) zz a!)) (aB awO c!)))
def aps:Fun:=bC b! (kp [0,2,4]) Tryz.f111.ntmps [.cell 2 62] ayz
theorem aDB(a:V)(h:Hp):aps [a] h=aU b! [.cell 2 62] (ayz (ss 0 a T.nil) h):=kR
theorem aKC:aG b! aH 111 aps:=prX aO [2] [] bF Tryz.func111
def aw1:Rg:=λf h=>aA (fC 145 [(Y U 0),(H []),(K false),(K false),(K false)] h) λa b=>a! (ss 0 a f) b
def aw0:Rg:=λf h=>aA (bQ [(Y U 0),(H []),(K false),(K false),(K false)] [(0,1,(Y U 2)),(1,1,(H [119,111,114,100,115]))] h) λa b=>gtO (ge 0 f) λc=>aA (aT 5 c a b) λ_ d=>a! f d
def ayC:Rg:=(aB aw1 (aB aw0 c!))
def apt:Fun:=bC b! (kp [0]) Tryz.f109.ntmps [.cell 0 145] ayC
theorem aDE(h:Hp):apt [] h=aU b! [.cell 0 145] (ayC T.nil h):=kR
theorem aKD:aG b! aH 109 apt:=prX aO [] [] bF Tryz.func109
def awK:Rg:=λf h=>aA (fC 145 [(Y U 0),(H []),(K false),(K false),(K false)] h) λa b=>a! (ss 0 a f) b
def awJ:Rg:=λf h=>aA (bQ [(Y U 0),(H []),(K false),(K false),(K false)] [(0,1,(Y U 1)),(1,1,(H [115,116,97,116,101]))] h) λa b=>gtO (ge 0 f) λc=>aA (aT 5 c a b) λ_ d=>a! f d
def ayy:Rg:=(aB awK (aB awJ c!))
def Us:Fun:=bC b! (kp [0]) Tryz.f136.ntmps [.cell 0 145] ayy
theorem aDz(h:Hp):Us [] h=aU b! [.cell 0 145] (ayy T.nil h):=kR
theorem aDU:aG b! aH 136 Us:=prX aO [] [] bF Tryz.func136
def aif:=rC 4 (K false)
def aie:Rg:=λf h=>gtO (ge 1 f) λa=>gtO (ge 0 f) λb=>aA (aZ 2 b h) λc d=>aA (aJ .lss .none a c d) λi j=>ifB i (aA (bJ 3 b a j) λm n=>aA (aC 0 m n) λo p=>aA (aF o p) λq r=>aA (aJ .eql .none q (Y U 1) r) λs t=>a! (ss 4 s f) t) (a! (ss 4 (K false) f) j)
def ala:Rg:=(aB aif (aB aie c!))
def Dz:Fun:=bC b! (kp [0,1,4]) Tryz.f93.ntmps [.tmp 4] ala
theorem aBn(a b:V)(h:Hp):Dz [a,b] h=aU b! [.tmp 4] (ala (ss 1 b (ss 0 a T.nil)) h):=kR
theorem aBf:aG b! aH 93 Dz:=prX aO [] [] bF Tryz.func93
def awX:Rg:=λf h=>a! (ss 5 (K false) (ss 4 .aQ f)) h
def awW:=rC 6 .aQ
def awV:Rg:=λf h=>gtO (ge 0 f) λa=>aA (aN a h) λb c=>aA (aC 3 b c) λd i=>aA (aF d i) λj m=>aA (aZ 2 j m) λn o=>a! (ss 14 (Y U 0) (ss 13 n (ss 12 j f))) o
def ae1:=r2 15 14 13 λa b h=>aJ .lss .none a b h
def amQ:Rg:=λf h=>gtO (ge 12 f) λa=>gtO (ge 14 f) λb=>aA (bJ 3 a b h) λc d=>aA (bT 3 c d) λi j=>aA (fC 149 [(Y U 0),(H []),.aQ] j) λm n=>aA (aT 3 m i n) λ_ o=>a! (ss 8 m f) o
def amP:Rg:=λf h=>gtO (ge 8 f) λa=>aA (aC 0 a h) λb c=>aA (aF b c) λd i=>aA (aJ .eql .none d (Y U 3) i) λj m=>a! (ss 20 j f) m
def awU:Rg:=λf h=>a! (ss 5 (K false) (ss 4 .aQ f)) h
def awT:Rg:=λf h=>gtO (ge 6 f) λa=>gtO (ge 8 f) λb=>aA (aC 1 b h) λc d=>aA (aF c d) λi j=>aA (bY 9 [(H [])] 1 [(0,1,i)] j) λm n=>aA (cZ 9 1 16 a m n) λo p=>a! (ss 6 o f) p
def awS:=r1 14 14 λa h=>aJ .add .none a (Y U 1) h
def awR:Rg:=λf h=>gtO (ge 6 f) λa=>aA (aZ 2 a h) λb c=>gtO (ge 1 f) λd=>aA (aJ .eql .none b d c) λi j=>a! (ss 5 i (ss 4 a f)) j
def ae3:Rg:=(aB ae1 (aB (aV (.tmp 15) a! (Out.ex 0)) (aB (bK 1 (aB amQ (aB (aB amP (aV (.tmp 20) (aB awU c!) a!)) awT))) awS)))
def ayA:Rg:=(aB awX (aB awW (aB (aB awV (bK 0 (dI ae3 lf))) (aB awR c!))))
def aae:Fun:=bC b! (kp [0,1,4,5,6,8,12,13,14,15,20]) Tryz.f110.ntmps [.tmp 4,.tmp 5] ayA
theorem aDC(a b:V)(h:Hp):aae [a,b] h=aU b! [.tmp 4,.tmp 5] (ayA (ss 1 b (ss 0 a T.nil)) h):=kR
theorem aDV:aG b! aH 110 aae:=prX aO [] [] bF Tryz.func110
def amV:Rg:=λf h=>aA (fC 145 [(Y U 0),(H []),(K false),(K false),(K false)] h) λa b=>a! (ss 4 a f) b
def amU:Rg:=λf h=>gtO (ge 1 f) λa=>aA (aN a h) λb c=>aA (aC 3 b c) λd i=>aA (aF d i) λj m=>aA (aZ 2 j m) λn o=>aA (aJ .gtr .none n (Y U 0) o) λp q=>a! (ss 10 p f) q
def axc:Rg:=λf h=>aA (apt [] h) λa b=>gtO (ge 4 f) λc=>aA (aT 5 c a b) λ_ d=>a! f d
def axb:Rg:=λf h=>gtO (ge 1 f) λa=>aA (bY 9 [(H [])] 1 [(0,1,(H [42,32,67,65,80,65,66,73,76,73,84,89,32,73,77,65,80,52,114,101,118,49,32,76,73,84,69,82,65,76,43,32,85,73,68,80,76,85,83,32,77,79,86,69,32,67,79,78,68,83,84,79,82,69]))] h) λb c=>aA (zi [a,b] c) λd i=>a! f i
def axa:Rg:=λf h=>aA (bQ [(Y U 0),(H []),(K false),(K false),(K false)] [] h) λa b=>gtO (ge 4 f) λc=>aA (aT 5 c a b) λ_ d=>a! f d
def ak7:Rg:=(aB amV (aB (aB amU (aV (.tmp 10) (aB axc c!) a!)) (aB axb (aB axa c!))))
def ayU:Fun:=bC b! (kp [1,4,10]) Tryz.f57.ntmps [.cell 4 145] ak7
theorem aDH(b a:V)(h:Hp):ayU [b,a] h=aU b! [.cell 4 145] (ak7 (ss 1 a T.nil) h):=kR
theorem aLl:aG b! aH 57 ayU:=prX aO [] [] (aW aKD (aW ayN bF)) Tryz.func57
def aw9:Rg:=λf h=>aA (fC 145 [(Y U 0),(H []),(K false),(K false),(K false)] h) λa b=>a! (ss 4 a f) b
def aw8:Rg:=λf h=>gtO (ge 1 f) λa=>aA (aae [a,(Y U 2)] h) λb c=>aA (dA 0 b c) λd i=>aA (dA 1 b i) λj m=>a! (ss 6 j (ss 5 d f)) m
def aw7:=r1 14 6 λa h=>oUn .not a h
def aw6:Rg:=λf h=>gtO (ge 1 f) λa=>aA (aN a h) λb c=>aA (aC 1 b c) λd i=>aA (aF d i) λj m=>aA (aps [j] m) λn o=>aA (fC 62 [(H []),(H []),(Y U 0),(Y U 0),(Y U 0),(Y U 0),(Y U 0),(Y U 0),(Y U 0)] o) λp q=>aA (aT 9 p n q) λ_ r=>a! (ss 7 p f) r
def aw5:Rg:=λf h=>gtO (ge 5 f) λa=>aA (bJ 1 a (Y U 0) (aI 0 h)) λb _=>aA (aF b (aI 0 h)) λc _=>gtO (ge 7 f) λd=>aA (aC 0 d (aI 0 h)) λi _=>aA (aF i (aI 0 h)) λj _=>aA (aJ .neq .none c j (aI 0 h)) λm _=>ifB m (a! (ss 34 (K true) f) (aI 0 h)) (gtO (ge 5 f) λn=>aA (bJ 1 n (Y U 1) (aI 0 h)) λo _=>aA (aF o (aI 0 h)) λp _=>gtO (ge 7 f) λq=>aA (aC 1 q (aI 0 h)) λr _=>aA (aF r (aI 0 h)) λs _=>aA (aJ .neq .none p s (aI 0 h)) λt _=>a! (ss 34 t f) (aI 0 h))
def aw3:Rg:=λf h=>gtO (ge 0 f) λa=>aA (aN a h) λb c=>aA (aC 0 b c) λd i=>aA (aT 1 d (K true) i) λ_ j=>a! f j
def aw2:Rg:=λf h=>aA (bQ [(Y U 0),(H []),(K false),(K false),(K false)] [] h) λa b=>gtO (ge 4 f) λc=>aA (aT 5 c a b) λ_ d=>a! f d
def ayE:Rg:=(aB aw9 (aB aw8 (aB (aB aw7 (aV (.tmp 14) zz a!)) (aB (aB aw6 (aB aw5 (aV (.tmp 34) zz a!))) (aB aw3 (aB aw2 c!))))))
def apu:Fun:=bC b! (kp [0,1,4,5,6,7,14,34]) Tryz.f60.ntmps [.cell 4 145] ayE
theorem aDG(a b:V)(h:Hp):apu [a,b] h=aU b! [.cell 4 145] (ayE (ss 1 b (ss 0 a T.nil)) h):=kR
theorem aKF:aG b! aH 60 apu:=prX aO [3,6] [(5,[0,1,3,0,8,31,63,127,255,511,127,1151,4095,8191],fM [0,16,35,48,67,80,96,112,128,147,160,179,192,208])] (aW aDV (aW aKC bF)) Tryz.func60
abbrev VF:Fun:=Ik.arS
theorem aua:aG b! aH 120 VF:=Ik.aC7
def WM:Rg:=λf h=>gtO (ge 1 f) λa=>aA (fO 3 a h) λb c=>a! (ss 4 (Y U 0) (ss 3 b f)) c
def WL:Rg:=λf h=>gtO (ge 0 f) λa=>gtO (ge 3 f) λb=>aA (eP (.func 301) [] [b] h) λc d=>aA (jU [a,c] d) λi j=>a! (ss 4 i f) j
def RV:Rg:=(aB WM (aB WL c!))
def Ie:Fun:=bC b! (kp [0,1,3,4]) Tryz.f201.ntmps [.tmp 4] RV
theorem alu(a b:V)(h:Hp):Ie [a,b] h=aU b! [.tmp 4] (RV (ss 1 b (ss 0 a T.nil)) h):=kR
theorem asM:aG b! aH 201 Ie:=prX aO [] [] (aW uG bF) Tryz.func201
def Gi:Rg:=λf h=>gtO (ge 0 f) λa=>aA (aZ 2 a h) λb c=>aA (aJ .sub .none b (Y U 1) c) λd i=>a! (ss 3 d (ss 2 (Y U 0) f)) i
def Gh:=r2 9 2 3 λa b h=>aJ .lss .none a b h
def H7:Rg:=(aB (aB Gh (aV (.tmp 9) a! (Out.ex 0))) zz)
def sQ:Rg:=(aB Gi (bK 0 (dI H7 lf)))
def sW:Fun:=bC b! (kp [0,2,3,9]) Tryz.f202.ntmps [] sQ
theorem XF(a:V)(h:Hp):sW [a] h=aU b! [] (sQ (ss 0 a T.nil) h):=kR
theorem aec:aG b! aH 202 sW:=prX aO [3,2] [] bF Tryz.func202
def afZ:=rC 4 (H [])
def afY:=rC 5 .aQ
def afX:=r2 6 0 1 λa b h=>Ie [a,b] h
def afW:Rg:=λf h=>gtO (ge 6 f) λa=>aA (aJ .lss .none a (Y U 0) h) λb c=>ifB b (a! (ss 18 (K true) f) c) (gtO (ge 5 f) λd=>aA (aZ 2 d c) λi j=>gtO (ge 0 f) λm=>aA (aZ 2 m j) λn o=>aA (aJ .eql .none i n o) λp q=>a! (ss 18 p f) q)
def afV:Rg:=λf h=>gtO (ge 5 f) λa=>gtO (ge 0 f) λb=>gtO (ge 6 f) λc=>aA (bJ 6 b c h) λd i=>aA (aC 1 d i) λj m=>aA (aF j m) λn o=>aA (bY 9 [(H [])] 1 [(0,1,n)] o) λp q=>aA (cZ 9 1 16 a p q) λr s=>a! (ss 5 r f) s
def afU:Rg:=λf h=>gtO (ge 0 f) λa=>gtO (ge 6 f) λb=>aA (bJ 6 a b h) λc d=>aA (aC 2 c d) λi j=>aA (aF i j) λm n=>a! (ss 1 m f) n
def afT:=r1 33 1 λa h=>aJ .eql .none a (Y U 0) h
def afS:Rg:=λf h=>gtO (ge 5 f) λa=>aA (sW [a] h) λb c=>a! f c
def afR:=r1 4 5 λa h=>ae6 [a,(H [47])] h
def ahd:Rg:=(bK 1 (aB afX (aB (aB afW (aV (.tmp 18) zz a!)) (aB afV (aB afU (aB afT (aV (.tmp 33) (Out.ex 0) a!)))))))
def Ue:Rg:=(aB afZ (aB afY (aB a! (aB (bK 0 (dI ahd lf)) (aB afS (aB afR c!))))))
def Uj:Fun:=bC b! (kp [0,1,4,5,6,18,33]) Tryz.f122.ntmps [.tmp 4] Ue
theorem asZ(a b:V)(h:Hp):Uj [a,b] h=aU b! [.tmp 4] (Ue (ss 1 b (ss 0 a T.nil)) h):=kR
theorem aAZ:aG b! aH 122 Uj:=prX aO [4] [] (aW asM (aW aec (aW ayM bF))) Tryz.func122
def UM:Rg:=λf h=>a! (ss 5 (K false) (ss 4 (Y U 0) f)) h
def UL:Rg:=λf h=>gtO (ge 1 f) λa=>aA (Dy [a] h) λb c=>aA (Dy [(H [73,78,66,79,88])] c) λd i=>aA (aJ .eql .none b d i) λj m=>a! (ss 11 j f) m
def af5:=rC 1 (H [73,78,66,79,88])
def UK:Rg:=λf h=>gtO (ge 0 f) λa=>aA (aZ 2 a h) λb c=>a! (ss 14 (Y U 0) (ss 13 b (ss 12 a f))) c
def af4:=r2 15 14 13 λa b h=>aJ .lss .none a b h
def UJ:Rg:=λf h=>gtO (ge 12 f) λa=>gtO (ge 14 f) λb=>aA (bJ 6 a b h) λc d=>aA (bT 6 c d) λi j=>aA (fC 55 [(Y U 0),(H []),(Y U 0),(Y U 0),(Y U 0),(Y U 0)] j) λm n=>aA (aT 6 m i n) λ_ o=>a! (ss 7 m f) o
def UI:Rg:=λf h=>gtO (ge 1 f) λa=>aA (aJ .neq .none a (H []) h) λb c=>ifB b (gtO (ge 0 f) λd=>gtO (ge 7 f) λi=>aA (aC 0 i c) λj m=>aA (aF j m) λn o=>aA (Uj [d,n] o) λp q=>aA (aJ .eql .none p a q) λr s=>a! (ss 27 r f) s) (a! (ss 27 (K false) f) c)
def af2:Rg:=λf h=>gtO (ge 7 f) λa=>aA (aC 0 a h) λb c=>aA (aF b c) λd i=>a! (ss 5 (K true) (ss 4 d f)) i
def af0:=r1 14 14 λa h=>aJ .add .none a (Y U 1) h
def UH:Rg:=λf h=>a! (ss 5 (K false) (ss 4 (Y U 0) f)) h
def ahe:Rg:=(aB af4 (aB (aV (.tmp 15) a! (Out.ex 0)) (aB (bK 1 (aB UJ (aB UI (aV (.tmp 27) (aB af2 c!) a!)))) af0)))
def MH:Rg:=(aB UM (aB (aB UL (aV (.tmp 11) af5 a!)) (aB (aB UK (bK 0 (dI ahe lf))) (aB UH c!))))
def Uk:Fun:=bC b! (kp [0,1,4,5,7,11,12,13,14,15,27]) Tryz.f187.ntmps [.tmp 4,.tmp 5] MH
theorem as1(a b:V)(h:Hp):Uk [a,b] h=aU b! [.tmp 4,.tmp 5] (MH (ss 1 b (ss 0 a T.nil)) h):=kR
theorem aA0:aG b! aH 187 Uk:=prX aO [] [] (aW alk (aW aAZ bF)) Tryz.func187
def agF:Rg:=λf h=>a! (ss 5 (Y U 0) (ss 4 (Y U 0) f)) h
def agE:Rg:=λf h=>gtO (ge 1 f) λa=>aA (VF [a] h) λb c=>aA (dA 0 b c) λd i=>aA (dA 1 b i) λj m=>a! (ss 7 j (ss 6 d f)) m
def agD:=r1 16 7 λa h=>aJ .neq .none a (Y U 0) h
def agC:Rg:=λf h=>gtO (ge 0 f) λa=>aA (aN a h) λb c=>aA (aC 1 b c) λd i=>aA (aF d i) λj m=>aA (wS [j] m) λn o=>gtO (ge 6 f) λp=>aA (Uk [n,p] o) λq r=>aA (dA 0 q r) λs t=>aA (dA 1 q t) λu v=>a! (ss 9 u (ss 8 s f)) v
def agB:=r1 29 9 λa h=>oUn .not a h
def agA:Rg:=λf h=>gtO (ge 8 f) λa=>a! (ss 5 (Y U 0) (ss 4 a f)) h
def adZ:Rg:=(aB agF (aB agE (aB (aB agD (aV (.tmp 16) zz a!)) (aB agC (aB (aB agB (aV (.tmp 29) zz a!)) (aB agA c!))))))
def Uo:Fun:=bC b! (kp [0,1,4,5,6,7,8,9,16,29]) Tryz.f116.ntmps [.tmp 4,.tmp 5] adZ
theorem atc(a b:V)(h:Hp):Uo [a,b] h=aU b! [.tmp 4,.tmp 5] (adZ (ss 1 b (ss 0 a T.nil)) h):=kR
theorem aA8:aG b! aH 116 Uo:=prX aO [3,6] [] (aW aua (aW OZ (aW aA0 bF))) Tryz.func116
abbrev pR:Fun:=Ik.arR
theorem ag7:aG b! aH 126 pR:=Ik.aC6
def ak5:Rg:=λf h=>gtO (ge 1 f) λa=>aA (fO 3 a h) λb c=>aA (fC 55 [(Y U 0),(H []),(Y U 0),(Y U 0),(Y U 0),(Y U 0)] c) λd i=>a! (ss 4 d (ss 3 b f)) i
def ak4:Rg:=λf h=>gtO (ge 0 f) λa=>aA (aN a h) λb c=>aA (aC 1 b c) λd i=>aA (aF d i) λj m=>aA (wS [j] m) λn o=>a! (ss 5 n f) o
def ak3:Rg:=λf h=>gtO (ge 5 f) λa=>gtO (ge 3 f) λb=>aA (eP (.func 208) [] [b] h) λc d=>aA (jU [a,c] d) λi j=>aA (bJ 6 a i j) λm n=>aA (bT 6 m n) λo p=>gtO (ge 4 f) λq=>aA (aT 6 q o p) λ_ r=>a! f r
def aiq:Rg:=(aB ak5 (aB ak4 (aB ak3 c!)))
def aad:Fun:=bC b! (kp [0,1,3,4,5]) Tryz.f125.ntmps [.cell 4 55] aiq
theorem auB(a b:V)(h:Hp):aad [a,b] h=aU b! [.cell 4 55] (aiq (ss 1 b (ss 0 a T.nil)) h):=kR
theorem aDx:aG b! aH 125 aad:=prX aO [] [] (aW OZ (aW uG bF)) Tryz.func125
def NK:Rg:=λf h=>aA (fC 145 [(Y U 0),(H []),(K false),(K false),(K false)] h) λa b=>a! (ss 6 a f) b
def NJ:Rg:=λf h=>gtO (ge 1 f) λa=>aA (aae [a,(Y U 1)] h) λb c=>aA (dA 0 b c) λd i=>aA (dA 1 b i) λj m=>a! (ss 8 j (ss 7 d f)) m
def NI:=r1 18 8 λa h=>oUn .not a h
def NH:Rg:=λf h=>gtO (ge 0 f) λa=>aA (aN a h) λb c=>aA (aC 1 b c) λd i=>aA (aT 1 d .bP i) λ_ j=>aA (aN a j) λm n=>aA (aC 2 m n) λo p=>aA (aT 1 o (K false) p) λ_ q=>a! f q
def NG:Rg:=λf h=>gtO (ge 1 f) λa=>gtO (ge 7 f) λb=>aA (bJ 1 b (Y U 0) h) λc d=>aA (aF c d) λi j=>aA (Uo [a,i] j) λm n=>aA (dA 0 m n) λo p=>aA (dA 1 m p) λq r=>a! (ss 10 q (ss 9 o f)) r
def NE:=r1 35 10 λa h=>aJ .neq .none a (Y U 0) h
def ND:Rg:=λf h=>gtO (ge 0 f) λa=>gtO (ge 1 f) λb=>aA (aN b h) λc d=>aA (aC 1 c d) λi j=>aA (aF i j) λm n=>gtO (ge 9 f) λo=>aA (ZW [m,o] n) λp q=>aA (dA 0 p q) λr s=>aA (dA 1 p s) λt u=>aA (aN a u) λv w=>aA (aC 1 v w) λx y=>aA (aT 1 x r y) λ_ z=>a! f z
def Nz:Rg:=λf h=>gtO (ge 0 f) λa=>gtO (ge 2 f) λb=>aA (aN a h) λc d=>aA (aC 2 c d) λi j=>aA (aT 1 i b j) λ_ m=>a! f m
def JL:Rg:=λf h=>gtO (ge 1 f) λa=>gtO (ge 9 f) λb=>aA (aad [a,b] h) λc d=>aA (fC 55 [(Y U 0),(H []),(Y U 0),(Y U 0),(Y U 0),(Y U 0)] d) λi j=>aA (aT 6 i c j) λ_ m=>a! (ss 11 i f) m
def JK:Rg:=λf h=>gtO (ge 1 f) λa=>aA (bY 9 [(H [])] 1 [(0,1,(H [42,32,70,76,65,71,83,32,40,92,65,110,115,119,101,114,101,100,32,92,70,108,97,103,103,101,100,32,92,68,101,108,101,116,101,100,32,92,83,101,101,110,32,92,68,114,97,102,116,41]))] h) λb c=>aA (zi [a,b] c) λd i=>a! f i
def JJ:Rg:=λf h=>gtO (ge 1 f) λa=>gtO (ge 0 f) λb=>aA (aN b h) λc d=>aA (aC 1 c d) λi j=>aA (aF i j) λm n=>aA (EZ [m] n) λo p=>aA (aZ 2 o p) λq r=>aA (pR [q] r) λs t=>aA (bY 9 [(H []),(H []),(H [])] 3 [(0,1,(H [42])),(1,1,s),(2,1,(H [69,88,73,83,84,83]))] t) λu v=>aA (zi [a,u] v) λw x=>a! f x
def JI:Rg:=λf h=>gtO (ge 1 f) λa=>aA (bY 9 [(H [])] 1 [(0,1,(H [42,32,48,32,82,69,67,69,78,84]))] h) λb c=>aA (zi [a,b] c) λd i=>a! f i
def JH:Rg:=λf h=>gtO (ge 1 f) λa=>gtO (ge 11 f) λb=>aA (aC 3 b h) λc d=>aA (aF c d) λi j=>aA (pR [i] j) λm n=>aA (aJ .add .none (H [42,32,79,75,32,91,85,73,68,86,65,76,73,68,73,84,89,32]) m n) λo p=>aA (aJ .add .none o (H [93]) p) λq r=>aA (bY 9 [(H [])] 1 [(0,1,q)] r) λs t=>aA (zi [a,s] t) λu v=>a! f v
def JG:Rg:=λf h=>gtO (ge 1 f) λa=>gtO (ge 11 f) λb=>aA (aC 4 b h) λc d=>aA (aF c d) λi j=>aA (pR [i] j) λm n=>aA (aJ .add .none (H [42,32,79,75,32,91,85,73,68,78,69,88,84,32]) m n) λo p=>aA (aJ .add .none o (H [93]) p) λq r=>aA (bY 9 [(H [])] 1 [(0,1,q)] r) λs t=>aA (zi [a,s] t) λu v=>a! f v
def JF:Rg:=λf h=>gtO (ge 1 f) λa=>aA (aN a h) λb c=>aA (aC 1 b c) λd i=>aA (aF d i) λj m=>aA (Ii [j] m) λn o=>aA (pR [n] o) λp q=>aA (aJ .add .none (H [42,32,79,75,32,91,72,73,71,72,69,83,84,77,79,68,83,69,81,32]) p q) λr s=>aA (aJ .add .none r (H [93]) s) λt u=>aA (bY 9 [(H [])] 1 [(0,1,t)] u) λv w=>aA (zi [a,v] w) λx y=>a! f y
def JE:=rM 100 2
def Xv:Rg:=λf h=>aA (bQ [(Y U 0),(H []),(K false),(K false),(K false)] [(1,1,(H [82,69,65,68,45,79,78,76,89])),(3,1,(K true))] h) λa b=>gtO (ge 6 f) λc=>aA (aT 5 c a b) λ_ d=>a! f d
def Xu:Rg:=λf h=>aA (bQ [(Y U 0),(H []),(K false),(K false),(K false)] [(1,1,(H [82,69,65,68,45,87,82,73,84,69])),(3,1,(K true))] h) λa b=>gtO (ge 6 f) λc=>aA (aT 5 c a b) λ_ d=>a! f d
def Kz:Rg:=(aB NK (aB NJ (aB (aB NI (aV (.tmp 18) zz a!)) (aB NH (aB NG (aB (aB NE (aV (.tmp 35) zz a!)) (aB ND (aB Nz (aB JL (aB JK (aB JJ (aB JI (aB JH (aB JG (aB JF (aB (aB JE (aV (.tmp 100) (aB Xv c!) a!)) (aB Xu c!)))))))))))))))))
def um:Fun:=bC b! (kp [0,1,2,6,7,8,9,10,11,18,35,100]) Tryz.f112.ntmps [.cell 6 145] Kz
theorem ani(a b c:V)(h:Hp):um [a,b,c] h=aU b! [.cell 6 145] (Kz (ss 2 c (ss 1 b (ss 0 a T.nil))) h):=kR
theorem aha:aG b! aH 112 um:=prX aO [3,7] [] (aW aDV (aW aA8 (aW aDn (aW aDx (aW ayN (aW ad7 (aW ag7 (aW alb bF)))))))) Tryz.func112
def agz:Rg:=λf h=>aA (fC 145 [(Y U 0),(H []),(K false),(K false),(K false)] h) λa b=>a! (ss 4 a f) b
def agy:Rg:=λf h=>gtO (ge 0 f) λa=>gtO (ge 1 f) λb=>aA (um [a,b,(K false)] h) λc d=>gtO (ge 4 f) λi=>aA (aT 5 i c d) λ_ j=>a! f j
def adY:Rg:=(aB agz (aB agy c!))
def Un:Fun:=bC b! (kp [0,1,4]) Tryz.f61.ntmps [.cell 4 145] adY
theorem atb(a b:V)(h:Hp):Un [a,b] h=aU b! [.cell 4 145] (adY (ss 1 b (ss 0 a T.nil)) h):=kR
theorem aA7:aG b! aH 61 Un:=prX aO [] [] (aW aha bF) Tryz.func61
def Xt:Rg:=λf h=>aA (fC 145 [(Y U 0),(H []),(K false),(K false),(K false)] h) λa b=>a! (ss 4 a f) b
def Xr:Rg:=λf h=>gtO (ge 0 f) λa=>gtO (ge 1 f) λb=>aA (um [a,b,(K true)] h) λc d=>gtO (ge 4 f) λi=>aA (aT 5 i c d) λ_ j=>a! f j
def RZ:Rg:=(aB Xt (aB Xr c!))
def Il:Fun:=bC b! (kp [0,1,4]) Tryz.f62.ntmps [.cell 4 145] RZ
theorem alz(a b:V)(h:Hp):Il [a,b] h=aU b! [.cell 4 145] (RZ (ss 1 b (ss 0 a T.nil)) h):=kR
theorem asT:aG b! aH 62 Il:=prX aO [] [] (aW aha bF) Tryz.func62
def abB:Rg:=λf h=>gtO (ge 0 f) λa=>aA (fO 40 a h) λb c=>a! (ss 4 .aQ (ss 2 b f)) c
def abA:=rC 5 .aQ
def abz:Rg:=λf h=>gtO (ge 2 f) λa=>aA (aC 5 a h) λb c=>aA (aF b c) λd i=>aA (aZ 2 d i) λj m=>a! (ss 11 (Y U 0) (ss 10 j (ss 9 d f))) m
def aby:=r2 12 11 10 λa b h=>aJ .lss .none a b h
def Nu:Rg:=λf h=>gtO (ge 9 f) λa=>gtO (ge 11 f) λb=>aA (bJ 2 a b h) λc d=>aA (bT 2 c d) λi j=>aA (fC 106 [(Y U 0),(Y U 0)] j) λm n=>aA (aT 2 m i n) λ_ o=>a! (ss 7 m f) o
def Ns:Rg:=λf h=>gtO (ge 7 f) λa=>aA (aC 0 a h) λb c=>aA (aF b c) λd i=>gtO (ge 1 f) λj=>aA (aJ .neq .none d j i) λm n=>a! (ss 18 m f) n
def abx:Rg:=λf h=>gtO (ge 5 f) λa=>gtO (ge 7 f) λb=>aA (aC 0 b h) λc d=>aA (aF c d) λi j=>aA (bY 3 [(Y U 0)] 1 [(0,1,i)] j) λm n=>aA (cZ 3 1 8 a m n) λo p=>a! (ss 5 o f) p
def abw:=r1 11 11 λa h=>aJ .add .none a (Y U 1) h
def abv:=rM 4 5
def aoW:Rg:=(aB aby (aB (aV (.tmp 12) a! (Out.ex 0)) (aB (bK 1 (aB Nu (aB Ns (aV (.tmp 18) abx a!)))) abw)))
def VA:Rg:=(aB abB (aB abA (aB (aB abz (bK 0 (dI aoW lf))) (aB abv c!))))
def KH:Fun:=bC b! (kp [0,1,2,4,5,7,9,10,11,12,18]) Tryz.f219.ntmps [.tmp 4] VA
theorem ang(a b:V)(h:Hp):KH [a,b] h=aU b! [.tmp 4] (VA (ss 1 b (ss 0 a T.nil)) h):=kR
theorem auj:aG b! aH 219 KH:=prX aO [] [] bF Tryz.func219
def abr:Rg:=λf h=>gtO (ge 1 f) λa=>aA (fO 200 a h) λb c=>a! (ss 5 (Y U 0) (ss 4 b f)) c
def abq:Rg:=λf h=>gtO (ge 2 f) λa=>aA (aF a (aI 0 h)) λb _=>aA (aN b (aI 0 h)) λc _=>aA (aC 0 c (aI 0 h)) λd _=>aA (aF d (aI 0 h)) λi _=>aA (aN i (aI 0 h)) λj _=>aA (aC 1 j (aI 0 h)) λm _=>aA (aF m (aI 0 h)) λn _=>aA (SE [n] (aI 0 h)) λo p=>gtO (ge 4 f) λq=>aA (aC 2 q p) λr _=>aA (bT 8 r p) λs _=>chk (λh=>bT 8 r h) s ( aA (KH [s,o] p) λt u=>a! (ss 6 t f) u) 1 [(aI 0 h)]
def abp:Rg:=λf h=>gtO (ge 6 f) λa=>aA (aZ 2 a h) λb c=>aA (aJ .gtr .none b (Y U 0) c) λd i=>a! (ss 20 d f) i
def abo:Rg:=λf h=>gtO (ge 0 f) λa=>gtO (ge 4 f) λb=>aA (aC 2 b h) λc d=>aA (aC 0 c d) λi j=>aA (aF i j) λm n=>aA (Aq [a,m] n) λo p=>a! (ss 5 o f) p
def U8:Rg:=(aB abr (aB (aB abq (aB abp (aV (.tmp 20) zz a!))) (aB abo c!)))
def Dx:Fun:=bC b! (kp [0,1,2,4,5,6,20]) Tryz.f218.ntmps [.tmp 5] U8
theorem ane(a b c:V)(h:Hp):Dx [a,b,c] h=aU b! [.tmp 5] (U8 (ss 2 c (ss 1 b (ss 0 a T.nil))) h):=kR
theorem aui:aG b! aH 218 Dx:=prX aO [3] [(1,[0,1,0,4,12,28,60,124,252,508,1023,2047],fM [35,48,64,83,96,112,131,146,0,20,162,176])] (aW asL (aW auj (aW asP bF))) Tryz.func218
def aor:FuncId->Option Fun:=tK [(252,Fe),(253,SH),(218,Dx)]
def agO:=rC 6 (Y U 0)
def agN:Rg:=λf h=>gtO (ge 0 f) λa=>aA (aN a h) λb c=>aA (aC 1 b c) λd i=>aA (aF d i) λj m=>aA (Fe [j] m) λn o=>a! (ss 7 n f) o
def agM:Rg:=λf h=>gtO (ge 1 f) λa=>aA (aZ 2 a h) λb c=>a! (ss 18 (Y U 0) (ss 17 b (ss 16 a f))) c
def agL:=r2 19 18 17 λa b h=>aJ .lss .none a b h
def agK:Rg:=λf h=>gtO (ge 16 f) λa=>gtO (ge 18 f) λb=>aA (bJ 10 a b h) λc d=>aA (bT 10 c d) λi j=>aA (fC 200 [(Y U 0),(Y U 0),(Y U 0),(Y U 0),(H []),(Y U 0),.aQ,.aQ,(Y U 0),(Y U 0)] j) λm n=>aA (aT 10 m i n) λ_ o=>a! (ss 9 m f) o
def agJ:Rg:=λf h=>gtO (ge 2 f) λa=>gtO (ge 7 f) λb=>gtO (ge 9 f) λc=>aA (bT 10 c h) λd i=>aA (dK aor a [b,d] i) λj m=>a! (ss 10 j f) m
def agI:=r1 27 10 λa h=>aJ .neq .none a (Y U 0) h
def agH:=r1 18 18 λa h=>aJ .add .none a (Y U 1) h
def agG:Rg:=λf h=>gtO (ge 0 f) λa=>aA (aN a h) λb c=>aA (aC 1 b c) λd i=>aA (aF d i) λj m=>gtO (ge 7 f) λn=>aA (SH [j,n] m) λo p=>a! f p
def adx:=rC 6 (Y U 0)
def aul:Rg:=(aB agL (aB (aV (.tmp 19) a! (Out.ex 0)) (aB (bK 1 (aB agK (aB agJ (aB agI (aV (.tmp 27) zz a!))))) agH)))
def Ug:Rg:=(aB agO (aB agN (aB (aB agM (bK 0 (dI aul lf))) (aB agG (aB adx c!)))))
def MV:Fun:=bC b! (kp [0,1,2,6,7,9,10,16,17,18,19,27]) Tryz.f157.ntmps [.tmp 6] Ug
theorem atd(a b c:V)(h:Hp):MV [a,b,c] h=aU b! [.tmp 6] (Ug (ss 2 c (ss 1 b (ss 0 a T.nil))) h):=kR
theorem aA9:aG b! aH 157 MV:=prX aO [7] [] (aW aou (aW aDq (aW aui bF))) Tryz.func157
def adw:Rg:=λf h=>gtO (ge 0 f) λa=>aA (fO 138 a h) λb c=>a! (ss 4 (Y U 0) (ss 2 b f)) c
def adv:=r1 1 1 λa h=>jg [a,(.func (.func 217) .nil .nil)] h
def adu:Rg:=λf h=>gtO (ge 2 f) λa=>aA (aF a h) λb c=>gtO (ge 1 f) λd=>aA (eP (.func 218) [] [a] c) λi j=>aA (MV [b,d,i] j) λm n=>a! (ss 4 m f) n
def ZJ:Rg:=(aB adw (aB adv (aB adu c!)))
def Bg:Fun:=bC b! (kp [0,1,2,4]) Tryz.f133.ntmps [.tmp 4] ZJ
theorem ao3(a b:V)(h:Hp):Bg [a,b] h=aU b! [.tmp 4] (ZJ (ss 1 b (ss 0 a T.nil)) h):=kR
theorem alf:aG b! aH 133 Bg:=prX aO [] [] (aW Du (aW aA9 bF)) Tryz.func133
def TW:=rC 4 .aQ
def TV:=r1 5 1 λa h=>jO [a] h
def TU:Rg:=λf h=>gtO (ge 0 f) λa=>aA (aN a (aI 0 h)) λb _=>aA (aC 1 b (aI 0 h)) λc _=>aA (aF c (aI 0 h)) λd _=>aA (ZX [d] (aI 0 h)) λi j=>gtO (ge 0 f) λm=>aA (aN m j) λn _=>aA (aC 1 n j) λo _=>aA (aF o j) λp _=>chk (λh=>aF o h) p ( aA (EZ [p] j) λq r=>a! (ss 7 q (ss 6 i f)) r) 1 [(aI 0 h)]
def TT:=rC 8 .aQ
def TS:Rg:=λf h=>gtO (ge 6 f) λa=>aA (aZ 2 a h) λb c=>a! (ss 26 (Y U 0) (ss 25 b (ss 24 a f))) c
def TR:=r2 27 26 25 λa b h=>aJ .lss .none a b h
def yY:Rg:=λf h=>gtO (ge 26 f) λa=>gtO (ge 24 f) λb=>aA (bJ 1 b a h) λc d=>aA (aF c d) λi j=>aA (fC 3 [(Y U 0)] j) λm n=>aA (aT 1 m i n) λ_ o=>a! (ss 9 a (ss 10 m f)) o
def yX:Rg:=λf h=>gtO (ge 5 f) λa=>gtO (ge 10 f) λb=>aA (eP (.func 222) [] [b] h) λc d=>aA (kM [a,c] d) λi j=>a! (ss 11 i f) j
def yV:Rg:=λf h=>gtO (ge 11 f) λa=>aA (aJ .geq .none a (Y U 0) (aI 0 h)) λb _=>ifB b (gtO (ge 0 f) λc=>aA (aN c (aI 0 h)) λd _=>aA (aC 1 d (aI 0 h)) λi _=>aA (aF i (aI 0 h)) λj _=>aA (SE [j] (aI 0 h)) λm n=>gtO (ge 5 f) λo=>gtO (ge 11 f) λp=>aA (bJ 8 o p n) λq _=>aA (aC 5 q n) λr _=>aA (aF r n) λs _=>chk (λh=>aF r h) s ( gtO (ge 7 f) λt=>gtO (ge 9 f) λu=>aA (bJ 1 t u n) λv _=>aA (aF v n) λw _=>chk (λh=>aF v h) w ( aA (bQ [(Y U 0),(Y U 0)] [(0,1,m),(1,1,w)] n) λx _=>aA (ku [s,x] n) λy z=>a! (ss 53 y f) z) 1 [(aI 0 h)]) 1 [(aI 0 h)]) (a! (ss 53 (K false) f) (aI 0 h))
def TQ(fr:F)(h:Hp):Out:=
 gtO (ge 8 fr) λa=>gtO (ge 9 fr) λb=>aA (aJ .add .none b (Y U 1) (aI 1 h)) λc _=>
 gtO (ge 7 fr) λd=>gtO (ge 9 fr) λi=>aA (bJ 1 d i (aI 1 h)) λj _=>
 aA (aF j (aI 1 h)) λm _=>
 gtO (ge 5 fr) λn=>gtO (ge 11 fr) λo=>aA (bJ 8 n o (aI 1 h)) λp _=>
 aA (bT 8 p (aI 1 h)) λq _=>
 aA (bQ [(Y U 0),(Y U 0),(Y U 0),(Y U 0),(H []),(Y U 0),.aQ,.aQ,(Y U 0),(Y U 0)] [(0,1,c),(1,1,m),(2,8,q)] (aI 1 h)) λr _=>
 FQ (eH 200 [(Y U 0),(Y U 0),(Y U 0),(Y U 0),(H []),(Y U 0),.aQ,.aQ,(Y U 0),(Y U 0)] 1 [(0,10,r)]) λf e=>
 aA (cZ 200 10 120 a (e (Hp.next h)) (Hp.put (aI 1 h) (Hp.next h) (some f))) λs t=>
 a! (ss 8 s fr) t
def Ro:=r1 26 26 λa h=>aJ .add .none a (Y U 1) h
def Rn:=rM 4 8
def alp:Rg:=(aB TR (aB (aV (.tmp 27) a! (Out.ex 0)) (aB (bK 1 (aB yY (aB yX (aB yV (aV (.tmp 53) TQ a!))))) Ro)))
def NQ:Rg:=(aB TW (aB TV (aB TU (aB TT (aB (aB TS (bK 0 (dI alp lf))) (aB Rn c!))))))
def oL:Fun:=bC b! (kp [0,1,4,5,6,7,8,9,10,11,24,25,26,27,53]) Tryz.f134.ntmps [.tmp 4] NQ
theorem aiE(a b:V)(h:Hp):oL [a,b] h=aU b! [.tmp 4] (NQ (ss 1 b (ss 0 a T.nil)) h):=kR
theorem NR:aG b! aH 134 oL:=prX aO [] [(2,[0,1,3,7,15,0,32,96,224,511,1023,2047],fM [0,16,32,51,66,80,96,112,132,146,160,176]),(8,[0,1,3,7,7,31,63,127,7,263,775,1799,3847,7,7,24583,57351,130823,262143,524287],fM [0,16,32,128,144,160,179,194,48,64,80,96,116,208,224,240,260,272,290,304]),(9,[0,0,2,0,0,24,56,0,0,384,896,2046,4094,8191,16383],fM [0,16,32,48,64,80,99,112,128,144,163,176,193,210,224])] (aW OY (aW aDo (aW ad7 (aW Ak (aW asL (aW abS bF)))))) Tryz.func134
def Rz:Rg:=λf h=>aA (fC 145 [(Y U 0),(H []),(K false),(K false),(K false)] h) λa b=>a! (ss 4 a f) b
def Ry:Rg:=λf h=>gtO (ge 1 f) λa=>aA (aN a h) λb c=>aA (aC 3 b c) λd i=>aA (aF d i) λj m=>aA (aZ 2 j m) λn o=>aA (aJ .gtr .none n (Y U 0) o) λp q=>a! (ss 11 p f) q
def Rx:Rg:=λf h=>gtO (ge 0 f) λa=>aA (aN a h) λb c=>aA (aC 2 b c) λd i=>aA (aF d i) λj m=>aA (oUn .not j m) λn o=>a! (ss 17 n f) o
def adz:Rg:=λf h=>gtO (ge 1 f) λa=>gtO (ge 0 f) λb=>aA (aN a h) λc d=>aA (aC 1 c d) λi j=>aA (aF i j) λm n=>aA (oL [b,m] n) λo p=>aA (Bg [a,o] p) λq r=>a! (ss 5 q f) r
def ady:=r1 27 5 λa h=>aJ .neq .none a (Y U 0) h
def Rw:Rg:=λf h=>gtO (ge 0 f) λa=>aA (aN a h) λb c=>aA (aC 1 b c) λd i=>aA (aT 1 d .bP i) λ_ j=>aA (aN a j) λm n=>aA (aC 2 m n) λo p=>aA (aT 1 o (K false) p) λ_ q=>a! f q
def Rt:Rg:=λf h=>aA (bQ [(Y U 0),(H []),(K false),(K false),(K false)] [(3,1,(K true))] h) λa b=>gtO (ge 4 f) λc=>aA (aT 5 c a b) λ_ d=>a! f d
def OX:Rg:=(aB Rz (aB (aB Ry (aV (.tmp 11) zz a!)) (aB (aB Rx (aV (.tmp 17) (aB adz (aB ady (aV (.tmp 27) zz a!))) a!)) (aB Rw (aB Rt c!)))))
def Io:Fun:=bC b! (kp [0,1,4,5,11,17,27]) Tryz.f69.ntmps [.cell 4 145] OX
theorem abL(a b:V)(h:Hp):Io [a,b] h=aU b! [.cell 4 145] (OX (ss 1 b (ss 0 a T.nil)) h):=kR
theorem ayJ:aG b! aH 69 Io:=prX aO [2,6] [] (aW NR (aW alf bF)) Tryz.func69
def agR:Rg:=λf h=>aA (fC 145 [(Y U 0),(H []),(K false),(K false),(K false)] h) λa b=>a! (ss 2 a f) b
def agQ:=r1 4 0 λa h=>aJ .neq .none a (Y U 0) h
def agP:Rg:=λf h=>aA (bQ [(Y U 0),(H []),(K false),(K false),(K false)] [] h) λa b=>gtO (ge 2 f) λc=>aA (aT 5 c a b) λ_ d=>a! f d
def ad1:Rg:=(aB agR (aB (aB agQ (aV (.tmp 4) zz a!)) (aB agP c!)))
def Ur:Fun:=bC b! (kp [0,2,4]) Tryz.f115.ntmps [.cell 2 145] ad1
theorem ate(a:V)(h:Hp):Ur [a] h=aU b! [.cell 2 145] (ad1 (ss 0 a T.nil) h):=kR
theorem aBa:aG b! aH 115 Ur:=prX aO [2] [] bF Tryz.func115
abbrev aeg:Fun:=Ik.arP
theorem aA3:aG b! aH 224 aeg:=Ik.aC5
def Zj:Rg:=λf h=>gtO (ge 0 f) λa=>aA (fO 138 a h) λb c=>gtO (ge 1 (ss 2 b f)) λd=>aA (fO 149 d c) λi j=>a! (ss 5 (K false) (ss 4 .aQ (ss 3 i (ss 2 b f)))) j
def Zi:Rg:=λf h=>gtO (ge 3 f) λa=>aA (aC 0 a h) λb c=>aA (aF b c) λd i=>aA (aJ .eql .none d (Y U 3) i) λj m=>a! (ss 12 j f) m
def Zh:Rg:=λf h=>gtO (ge 2 f) λa=>aA (aF a h) λb c=>aA (aN b c) λd i=>aA (aC 0 d i) λj m=>aA (aF j m) λn o=>aA (aN n o) λp q=>aA (aC 1 p q) λr s=>aA (aF r s) λt u=>aA (EZ [t] u) λv w=>a! (ss 6 v f) w
def Zg:=r1 7 6 λa h=>aZ 2 a h
def Zf:Rg:=λf h=>gtO (ge 2 f) λa=>aA (aF a h) λb c=>aA (aN b c) λd i=>aA (aC 4 d i) λj m=>aA (aF j m) λn o=>ifB n (gtO (ge 7 f) λp=>aA (aJ .gtr .none p (Y U 0) o) λq r=>a! (ss 30 q f) r) (a! (ss 30 (K false) f) o)
def ak2:Rg:=λf h=>gtO (ge 6 f) λa=>gtO (ge 7 f) λb=>aA (aJ .sub .none b (Y U 1) h) λc d=>aA (bJ 1 a c d) λi j=>aA (aF i j) λm n=>a! (ss 7 m f) n
def Ze:Rg:=λf h=>gtO (ge 3 f) λa=>aA (aC 1 a h) λb c=>aA (aF b c) λd i=>gtO (ge 7 f) λj=>aA (aeg [d,j] i) λm n=>aA (dA 0 m n) λo p=>aA (dA 1 m p) λq r=>aA (fC 96 [.aQ] r) λs t=>aA (aT 1 s o t) λ_ u=>a! (ss 9 q (ss 8 s f)) u
def Y9:=r1 44 9 λa h=>aJ .neq .none a (Y U 0) h
def UY:Rg:=λf h=>gtO (ge 2 f) λa=>aA (aF a (aI 0 h)) λb _=>aA (aN b (aI 0 h)) λc _=>aA (aC 0 c (aI 0 h)) λd _=>aA (aF d (aI 0 h)) λi _=>gtO (ge 2 f) λj=>aA (aF j (aI 0 h)) λm _=>aA (aN m (aI 0 h)) λn _=>aA (aC 1 n (aI 0 h)) λo _=>aA (aF o (aI 0 h)) λp _=>aA (oL [i,p] (aI 0 h)) λq r=>gtO (ge 8 f) λs=>gtO (ge 2 f) λt=>aA (eP (.func 225) [] [s,t] r) λu _=>aA (jg [q,u] r) λv w=>a! (ss 5 (K true) (ss 4 v f)) w
def ZI:Rg:=(aB Zj (aB (aB Zi (aV (.tmp 12) zz a!)) (aB Zh (aB Zg (aB (aB Zf (aV (.tmp 30) ak2 a!)) (aB Ze (aB (aB Y9 (aV (.tmp 44) zz a!)) (aB UY c!))))))))
def aac:Fun:=bC b! (kp [0,1,2,3,4,5,6,7,8,9,12,30,44]) Tryz.f135.ntmps [.tmp 4,.tmp 5] ZI
theorem auA(a b:V)(h:Hp):aac [a,b] h=aU b! [.tmp 4,.tmp 5] (ZI (ss 1 b (ss 0 a T.nil)) h):=kR
theorem aDw:aG b! aH 135 aac:=prX aO [2,9] [(10,[0,1,3,7,0,16,48,112,255,0,1023,2047,4095],fM [3,16,32,51,67,80,96,115,130,144,162,176,192])] (aW ad7 (aW aA3 (aW NR (aW Du bF)))) Tryz.func135
def A7:Rg:=λf h=>aA (fC 145 [(Y U 0),(H []),(K false),(K false),(K false)] h) λa b=>a! (ss 4 a f) b
def AZ:Rg:=λf h=>gtO (ge 0 f) λa=>gtO (ge 1 f) λb=>aA (aN b h) λc d=>aA (aC 1 c d) λi j=>aA (aF i j) λm n=>aA (oL [a,m] n) λo p=>a! (ss 5 o f) p
def AY:Rg:=λf h=>gtO (ge 1 f) λa=>aA (aN a h) λb c=>aA (aC 4 b c) λd i=>aA (aF d i) λj m=>a! (ss 16 j f) m
def Xq:Rg:=λf h=>gtO (ge 1 f) λa=>aA (aN a h) λb c=>aA (aC 3 b c) λd i=>aA (aF d i) λj m=>aA (aZ 2 j m) λn o=>aA (aJ .eql .none n (Y U 1) o) λp q=>a! (ss 6 p f) q
def Xp:=rM 23 6
def Xo:Rg:=λf h=>gtO (ge 1 f) λa=>aA (aN a h) λb c=>aA (aC 3 b c) λd i=>aA (aF d i) λj m=>aA (bJ 3 j (Y U 0) m) λn o=>aA (bT 3 n o) λp q=>aA (aac [a,p] q) λr s=>aA (dA 0 r s) λt u=>aA (dA 1 r u) λv w=>a! (ss 6 v (ss 5 t f)) w
def Xn:=r1 36 6 λa h=>oUn .not a h
def JD:Rg:=λf h=>gtO (ge 1 f) λa=>aA (aN a h) λb c=>aA (aC 3 b c) λd i=>aA (aF d i) λj m=>aA (aZ 2 j m) λn o=>aA (aJ .gtr .none n (Y U 0) o) λp q=>a! (ss 43 p f) q
def yZ:Rg:=λf h=>gtO (ge 0 f) λa=>aA (aN a h) λb c=>aA (aC 2 b c) λd i=>aA (aF d i) λj m=>a! (ss 48 j f) m
def TY:Rg:=λf h=>aA (Us [] h) λa b=>gtO (ge 4 f) λc=>aA (aT 5 c a b) λ_ d=>a! f d
def GU:Rg:=λf h=>gtO (ge 1 f) λa=>gtO (ge 5 f) λb=>aA (Bg [a,b] h) λc d=>aA (Ur [c] d) λi j=>gtO (ge 4 f) λm=>aA (aT 5 m i j) λ_ n=>a! f n
def Aj:Rg:=(aB A7 (aB AZ (aB (aB AY (aV (.tmp 16) (aB Xq (aB (aB Xp (aV (.tmp 23) Xo a!)) (aB Xn (aV (.tmp 36) zz a!)))) (aB JD (aV (.tmp 43) zz a!)))) (aB (aB yZ (aV (.tmp 48) (aB TY c!) a!)) (aB GU c!)))))
def uU:Fun:=bC b! (kp [0,1,4,5,6,16,23,36,43,48]) Tryz.f70.ntmps [.cell 4 145] Aj
theorem Ij(a b:V)(h:Hp):uU [a,b] h=aU b! [.cell 4 145] (Aj (ss 1 b (ss 0 a T.nil)) h):=kR
theorem asR:aG b! aH 70 uU:=prX aO [7,9] [] (aW NR (aW aDw (aW aDU (aW alf (aW aBa bF))))) Tryz.func70
def aAX:FuncId->Option Fun:=tK [(93,Dz),(95,Dy),(136,Us),(60,apu),(61,Un),(62,Il),(69,Io),(70,uU)]
def Af:Rg:=λf h=>aA (fC 145 [(Y U 0),(H []),(K false),(K false),(K false)] h) λa b=>a! (ss 6 a f) b
def Ae:=r1 11 2 λa h=>aJ .eql .none a (H [117,105,100]) h
def JS:Rg:=λf h=>gtO (ge 1 f) λa=>aA (aN a h) λb c=>aA (aC 3 b c) λd i=>aA (aF d i) λj m=>aA (Dz [j,(Y U 0)] m) λn o=>aA (oUn .not n o) λp q=>a! (ss 17 p f) q
def RQ:Rg:=λf h=>aA (bQ [(Y U 0),(H []),(K false),(K false),(K false)] [(0,1,(Y U 2)),(1,1,(H [99,111,109,109,97,110,100]))] h) λa b=>gtO (ge 6 f) λc=>aA (aT 5 c a b) λ_ d=>a! f d
def JR:Rg:=λf h=>gtO (ge 1 f) λa=>aA (aN a h) λb c=>aA (aC 3 b c) λd i=>aA (aF d i) λj m=>aA (bJ 3 j (Y U 0) m) λn o=>aA (aC 1 n o) λp q=>aA (aF p q) λr s=>aA (Dy [r] s) λt u=>a! (ss 2 t f) u
def JQ:Rg:=λf h=>gtO (ge 1 f) λa=>aA (aN a h) λb c=>aA (aC 3 b c) λd i=>aA (aF d i) λj m=>aA (eY 3 j (some (Y U 1)) none none m) λn o=>aA (aN a o) λp q=>aA (aC 3 p q) λr s=>aA (aT 1 r n s) λ_ t=>aA (aN a t) λu v=>aA (aC 4 u v) λw x=>aA (aT 1 w (K true) x) λ_ y=>a! f y
def RP:Rg:=λf h=>gtO (ge 0 f) λa=>aA (aN a h) λb c=>aA (aC 4 b c) λd i=>aA (aF d i) λj m=>gtO (ge 2 f) λn=>aA (VT .string true (.agg (.cons .fV (.cons (Y U 0) (.cons (K false) .nil)))) j n m) λo p=>aA (dA 0 o p) λq r=>aA (dA 1 o r) λs t=>aA (fC 122 [.fV,(Y U 0),(K false)] t) λu v=>aA (aT 3 u q v) λ_ w=>a! (ss 8 s (ss 7 u f)) w
def RN:Rg:=λf h=>gtO (ge 8 f) λa=>aA (oUn .not a h) λb c=>ifB b (a! (ss 59 (K true) f) c) (gtO (ge 1 f) λd=>aA (aN d c) λi j=>aA (aC 4 i j) λm n=>aA (aF m n) λo p=>ifB o (gtO (ge 7 f) λq=>aA (aC 2 q p) λr s=>aA (aF r s) λt u=>aA (oUn .not t u) λv w=>a! (ss 59 v f) w) (a! (ss 59 (K false) f) p))
def asB:Rg:=λf h=>aA (bQ [(Y U 0),(H []),(K false),(K false),(K false)] [(0,1,(Y U 2)),(1,1,(H [99,111,109,109,97,110,100]))] h) λa b=>gtO (ge 6 f) λc=>aA (aT 5 c a b) λ_ d=>a! f d
def RJ:=rC 9 (K true)
def Ad:Rg:=λf h=>gtO (ge 7 f) λa=>aA (aC 1 a h) λb c=>aA (aF b c) λd i=>a! (ss 62 d f) i
def Ac:=r1 63 62 λa h=>aJ .eql .none a (Y U 1) h
def adN:Rg:=λf h=>gtO (ge 0 f) λa=>aA (aN a h) λb c=>aA (aC 0 b c) λd i=>aA (aF d i) λj m=>aA (oUn .not j m) λn o=>a! (ss 9 n f) o
def Aa:=r1 70 62 λa h=>aJ .eql .none a (Y U 2) h
def adM:Rg:=λf h=>gtO (ge 0 f) λa=>aA (aN a h) λb c=>aA (aC 0 b c) λd i=>aA (aF d i) λj m=>a! (ss 9 j f) m
def zZ:=r1 76 62 λa h=>aJ .eql .none a (Y U 3) h
def Ub:Rg:=λf h=>gtO (ge 0 f) λa=>aA (aN a h) λb c=>aA (aC 1 b c) λd i=>aA (aF d i) λj m=>aA (aJ .neq (.ptr 3) j .bP m) λn o=>a! (ss 9 n f) o
def zY:=r1 84 9 λa h=>oUn .not a h
def adL:Rg:=λf h=>aA (Us [] h) λa b=>gtO (ge 6 f) λc=>aA (aT 5 c a b) λ_ d=>a! f d
def EW:Rg:=λf h=>gtO (ge 7 f) λa=>aA (aC 0 a h) λb c=>aA (aF b c) λd i=>gtO (ge 1 f) λj=>aA (dK aAX d [j] i) λm n=>gtO (ge 6 f) λo=>aA (aT 5 o m n) λ_ p=>a! f p
def asH:Rg:=(aB Af (aB (aB Ae (aV (.tmp 11) (aB (aB JS (aV (.tmp 17) (aB RQ c!) a!)) (aB JR JQ)) a!)) (aB RP (aB (aB RN (aV (.tmp 59) (aB asB c!) a!)) (aB RJ (aB (aB Ad (bK 0 (aB Ac (aV (.tmp 63) adN (aB Aa (aV (.tmp 70) adM (aB zZ (aV (.tmp 76) Ub a!)))))))) (aB (aB zY (aV (.tmp 84) (aB adL c!) a!)) (aB EW c!))))))))
def SQ:Fun:=bC b! (kp [0,1,2,6,7,8,9,11,17,59,62,63,70,76,84]) Tryz.f94.ntmps [.cell 6 145] asH
theorem aem(a b c:V)(h:Hp):SQ [a,b,c] h=aU b! [.cell 6 145] (asH (ss 2 c (ss 1 b (ss 0 a T.nil))) h):=kR
theorem aJ4:aG b! aH 94 SQ:=prX aO [] [] (aW aBf (aW alk (aW aDU (aW aKF (aW aA7 (aW asT (aW ayJ (aW asR bF)))))))) Tryz.func94
def WJ:Rg:=λf h=>gtO (ge 0 f) λa=>aA (pR [a] h) λb c=>aA (aJ .add .none (H [42,32]) b c) λd i=>aA (aJ .add .none d (H [32]) i) λj m=>gtO (ge 1 f) λn=>aA (ae6 [n,(H [32])] m) λo p=>aA (aJ .add .none j o p) λq r=>aA (aJ .add .none q (H [13,10]) r) λs t=>gtO (ge 2 f) λu=>aA (xM [u,s] t) λv w=>a! f w
def RU:Rg:=WJ
def Ia:Fun:=bC b! (kp [0,1,2]) Tryz.f174.ntmps [] RU
theorem als(a b c:V)(h:Hp):Ia [a,b,c] h=aU b! [] (RU (ss 2 c (ss 1 b (ss 0 a T.nil))) h):=kR
theorem asK:aG b! aH 174 Ia:=prX aO [] [] (aW ag7 (aW ayM (aW alj bF))) Tryz.func174
def Ju:Rg:=λf h=>gtO (ge 0 f) λa=>aA (fO 248 a h) λb c=>aA (fC 250 [(Y U 0),(Y U 0),(Y U 0),(H []),(Y U 0),.aQ,.aQ,(Y U 0),(Y U 0)] c) λd i=>a! (ss 4 (K false) (ss 3 d (ss 2 b f))) i
def Jt:Rg:=λf h=>gtO (ge 1 f) λa=>aA (aF a h) λb c=>gtO (ge 2 f) λd=>aA (eP (.func 178) [] [d] c) λi j=>aA (mV [b,i] j) λm n=>a! (ss 5 m f) n
def Js:=r1 10 5 λa h=>aJ .lss .none a (Y U 0) h
def WI:Rg:=λf h=>aA (bQ [(Y U 0),(Y U 0),(Y U 0),(H []),(Y U 0),.aQ,.aQ,(Y U 0),(Y U 0)] [] h) λa b=>gtO (ge 3 f) λc=>aA (aT 9 c a b) λ_ d=>a! (ss 4 (K false) f) d
def WH:Rg:=λf h=>gtO (ge 1 f) λa=>aA (aF a h) λb c=>gtO (ge 5 f) λd=>aA (bJ 9 b d c) λi j=>aA (bT 9 i j) λm n=>gtO (ge 3 f) λo=>aA (aT 9 o m n) λ_ p=>a! (ss 4 (K true) f) p
def GY:Rg:=(aB Ju (aB Jt (aB (aB Js (aV (.tmp 10) (aB WI c!) a!)) (aB WH c!))))
def H9:Fun:=bC b! (kp [0,1,2,3,4,5,10]) Tryz.f176.ntmps [.cell 3 250,.tmp 4] GY
theorem alr(a b:V)(h:Hp):H9 [a,b] h=aU b! [.cell 3 250,.tmp 4] (GY (ss 1 b (ss 0 a T.nil)) h):=kR
theorem asJ:aG b! aH 176 H9:=prX aO [] [] (aW abQ bF) Tryz.func176
def XB:FuncId->Option Fun:=tK [(175,xU),(179,kN),(44,vN),(99,Ir),(174,Ia),(176,H9)]
def aid:=rC 6 (H [])
def aic:=r1 23 0 λa h=>aJ .eql (.ptr 3) a .bP h
def ast:=rC 6 (H [])
def asr:Rg:=λf h=>aA (fC 141 [.bP,.aQ] h) λa b=>a! (ss 7 a f) b
def asq:Rg:=λf h=>gtO (ge 7 f) λa=>aA (eP (.func 174) [] [a] h) λb c=>a! (ss 8 b f) c
def aso:Rg:=λf h=>gtO (ge 1 f) λa=>gtO (ge 0 f) λb=>aA (aN b h) λc d=>aA (aC 0 c d) λi j=>aA (aF i j) λm n=>aA (xU [a,m] n) λo p=>aA (fC 242 [.aQ] p) λq r=>aA (aT 1 q o r) λ_ s=>a! (ss 9 q f) s
def asn:Rg:=λf h=>gtO (ge 9 f) λa=>aA (eP (.func 176) [] [a] h) λb c=>a! (ss 10 b f) c
def asl:=rC 11 (Y U 0)
def RH:Rg:=λf h=>gtO (ge 2 f) λa=>ifB a (gtO (ge 11 f) λb=>gtO (ge 0 f) λc=>aA (aN c h) λd i=>aA (aC 1 d i) λj m=>aA (aF j m) λn o=>aA (aZ 2 n o) λp q=>aA (aJ .lss .none b p q) λr s=>a! (ss 41 r f) s) (a! (ss 41 (K false) f) h)
def aib(fr:F)(h:Hp):Out:=
 gtO (ge 10 fr) λa=>gtO (ge 0 fr) λb=>aA (aN b h) λc d=>
 aA (aC 1 c d) λi j=>
 aA (aF i j) λm n=>
 gtO (ge 11 fr) λo=>aA (bJ 3 m o n) λp q=>
 aA (bT 3 p q) λr s=>
 aA (dK XB a [r] s) λt u=>
 aA (dA 0 t u) λv w=>
 aA (dA 1 t w) λx y=>
 aA (fC 250 [(Y U 0),(Y U 0),(Y U 0),(H []),(Y U 0),.aQ,.aQ,(Y U 0),(Y U 0)] y) λz e=>
 aA (aT 9 z v e) λ_ f=>
 a! (ss 13 x fr) f
def adK:=rM 54 13
def aop:=r1 11 11 λa h=>aJ .add .none a (Y U 1) h
def aoo:Rg:=λf h=>gtO (ge 8 f) λa=>gtO (ge 11 f) λb=>aA (aJ .add .none b (Y U 1) h) λc d=>aA (bY 9 [(H [])] 1 [(0,1,(H [69,88,80,85,78,71,69]))] d) λi j=>aA (dK XB a [c,i] j) λm n=>a! f n
def aon:Rg:=λf h=>gtO (ge 0 f) λa=>aA (aN a h) λb c=>aA (aC 1 b c) λd i=>aA (aF d i) λj m=>gtO (ge 11 f) λn=>aA (aJ .add .none n (Y U 1) m) λo p=>aA (kN [j,n,o] p) λq r=>aA (aN a r) λs t=>aA (aC 1 s t) λu v=>aA (aT 1 u q v) λ_ w=>a! f w
def aom:Rg:=λf h=>gtO (ge 0 f) λa=>aA (aN a h) λb c=>aA (aC 1 b c) λd i=>aA (aF d i) λj m=>aA (aZ 2 j m) λn o=>a! (ss 78 (Y U 0) (ss 77 n (ss 76 j f))) o
def aol:=r2 79 78 77 λa b h=>aJ .lss .none a b h
def adJ:Rg:=λf h=>gtO (ge 78 f) λa=>gtO (ge 76 f) λb=>aA (bJ 3 b a h) λc d=>aA (bT 3 c d) λi j=>aA (fC 248 [(Y U 0),(Y U 0),.bP] j) λm n=>aA (aT 3 m i n) λ_ o=>a! (ss 14 a (ss 15 m f)) o
def adI:Rg:=λf h=>gtO (ge 10 f) λa=>gtO (ge 15 f) λb=>aA (bT 3 b h) λc d=>aA (dK XB a [c] d) λi j=>aA (dA 0 i j) λm n=>aA (dA 1 i n) λo p=>aA (fC 250 [(Y U 0),(Y U 0),(Y U 0),(H []),(Y U 0),.aQ,.aQ,(Y U 0),(Y U 0)] p) λq r=>aA (aT 9 q m r) λ_ s=>a! (ss 17 o (ss 16 q f)) s
def adH:Rg:=λf h=>gtO (ge 17 f) λa=>ifB a (gtO (ge 15 f) λb=>aA (aC 2 b (aI 0 h)) λc _=>aA (aF c (aI 0 h)) λd _=>aA (vN [d] (aI 0 h)) λi j=>gtO (ge 16 f) λm=>aA (aC 1 m j) λn _=>aA (aC 6 n j) λo _=>aA (aF o j) λp _=>chk (λh=>aF o h) p ( aA (aJ .gtr .none p i j) λq _=>a! (ss 98 q f) j) 1 [(aI 0 h)]) (a! (ss 98 (K false) f) (aI 0 h))
def aok:=r1 78 78 λa h=>aJ .add .none a (Y U 1) h
def aoj:Rg:=λf h=>gtO (ge 0 f) λa=>aA (aN a (aI 0 h)) λb _=>aA (aC 2 b (aI 0 h)) λc _=>aA (aF c (aI 0 h)) λd _=>gtO (ge 0 f) λi=>aA (aN i (aI 0 h)) λj _=>aA (aC 1 j (aI 0 h)) λm _=>aA (aF m (aI 0 h)) λn _=>aA (aZ 2 n (aI 0 h)) λo _=>a! (ss 19 o (ss 18 d f)) (aI 0 h)
def aoi:Rg:=λf h=>gtO (ge 9 f) λa=>aA (aF a h) λb c=>aA (aZ 2 b c) λd i=>a! (ss 135 (Y U 0) (ss 134 d (ss 133 b f))) i
def aoh:=r2 136 135 134 λa b h=>aJ .lss .none a b h
def aog:Rg:=λf h=>gtO (ge 133 f) λa=>gtO (ge 135 f) λb=>aA (bJ 9 a b h) λc d=>aA (bT 9 c d) λi j=>aA (fC 250 [(Y U 0),(Y U 0),(Y U 0),(H []),(Y U 0),.aQ,.aQ,(Y U 0),(Y U 0)] j) λm n=>aA (aT 9 m i n) λ_ o=>a! (ss 21 m f) o
def aof:Rg:=λf h=>gtO (ge 21 f) λa=>aA (aC 0 a h) λb c=>aA (aF b c) λd i=>gtO (ge 18 f) λj=>aA (aJ .gtr .none d j i) λm n=>a! (ss 142 m f) n
def aoe:=r1 135 135 λa h=>aJ .add .none a (Y U 1) h
def adG:Rg:=λf h=>gtO (ge 0 f) λa=>aA (aN a h) λb c=>aA (aC 1 b c) λd i=>aA (aF d i) λj m=>aA (aZ 2 j m) λn o=>gtO (ge 19 f) λp=>aA (aJ .gtr .none n p o) λq r=>a! (ss 153 q f) r
def adF:=r1 6 7 λa h=>Ir [a] h
def Sv:Rg:=(aB (aB RH (aV (.tmp 41) a! (Out.ex 0))) (bK 1 (aB (aB aib (aB adK (aV (.tmp 54) (aB aop (Out.ex 1)) a!))) (aB aoo aon))))
def aBh:Rg:=(aB aol (aB (aV (.tmp 79) a! (Out.ex 2)) (aB (bK 3 (aB adJ (aB adI (aB adH (aV (.tmp 98) zz a!))))) aok)))
def aBg:Rg:=(aB aoh (aB (aV (.tmp 136) a! (Out.ex 4)) (aB (bK 5 (aB aog (aB aof (aV (.tmp 142) zz a!)))) aoe)))
def ad5:Rg:=(aB aid (aB (aB aic (aV (.tmp 23) (aB ast c!) a!)) (aB asr (aB asq (aB aso (aB asn (aB (aB asl (bK 0 (dI Sv lf))) (aB (aB aom (bK 2 (dI aBh lf))) (aB aoj (aB (aB aoi (bK 4 (dI aBg lf))) (aB (aB adG (aV (.tmp 153) zz a!)) (aB adF c!))))))))))))
def XJ:Fun:=bC b! (kp [0,1,2,6,7,8,9,10,11,13,14,15,16,17,18,19,21,23,41,54,76,77,78,79,98,133,134,135,136,142,153]) Tryz.f97.ntmps [.tmp 6] ad5
theorem aoA(a b c:V)(h:Hp):XJ [a,b,c] h=aU b! [.tmp 6] (ad5 (ss 2 c (ss 1 b (ss 0 a T.nil))) h):=kR
theorem aJ3:aG b! aH 97 XJ:=prX aO [19,20,27,30] [(18,[0,1,3,7,15,3,35,99,255,511],fM [0,16,80,99,114,32,48,68,128,144]),(22,[0,1,3,7,0,16,48,112,240,15,1023],fM [0,16,32,51,64,80,96,115,128,144,160])] (aW ag6 (aW aed (aW Ui (aW asV (aW asK (aW asJ bF)))))) Tryz.func97
def PK:Rg:=λf h=>gtO (ge 3 f) λa=>aA (fO 94 a h) λb c=>a! (ss 9 (K false) (ss 8 (H []) (ss 7 b f))) c
def PI:Rg:=λf h=>gtO (ge 0 f) λa=>aA (aJ .eql (.ptr 5) a .bP h) λb c=>ifB b (a! (ss 13 (K true) f) c) (gtO (ge 1 f) λd=>aA (aJ .eql (.ptr 16) d .bP c) λi j=>a! (ss 13 i f) j)
def amT:Rg:=λf h=>a! (ss 9 (K false) (ss 8 (H []) f)) h
def PG:Rg:=λf h=>gtO (ge 7 f) λa=>aA (aC 0 a h) λb c=>aA (aF b c) λd i=>aA (aJ .eql .none d (Y U 2) i) λj m=>a! (ss 20 j f) m
def amS:Rg:=λf h=>a! (ss 9 (K true) (ss 8 (H [43,32,103,111,32,111,110,13,10]) f)) h
def PE(fr:F)(h:Hp):Out:=
 gtO (ge 7 fr) λa=>aA (aC 0 a h) λb c=>
 aA (aF b c) λd i=>
 aA (aJ .neq .none d (Y U 1) i) λj m=>
 ifB j (a! (ss 24 (K true) fr) m) (aA (aC 1 a m) λn o=>
 aA (aF n o) λp q=>
 aA (Dz [p,(Y U 0)] q) λr s=>
 aA (oUn .not r s) λt u=>
 ifB t (a! (ss 24 (K true) fr) u) (aA (aC 1 a u) λv w=>
 aA (aF v w) λx y=>
 aA (Dz [x,(Y U 1)] y) λz e=>
 aA (oUn .not z e) λf g=>
 a! (ss 24 f fr) g))
def amR:Rg:=λf h=>a! (ss 9 (K true) (ss 8 (H [42,32,66,65,68,32,108,105,110,101,13,10]) f)) h
def PD:Rg:=λf h=>gtO (ge 0 f) λa=>aA (aN a h) λb c=>aA (aC 3 b c) λd i=>aA (XK [d,(Y U 1)] i) λj m=>a! f m
def Pz:Rg:=λf h=>gtO (ge 0 f) λa=>gtO (ge 1 f) λb=>gtO (ge 2 f) λc=>gtO (ge 7 f) λd=>aA (aC 1 d h) λi j=>aA (aF i j) λm n=>aA (eY 3 m (some (Y U 2)) none none n) λo p=>aA (bQ [.bP,.bP,(Y U 0),.aQ,(K false),.bP,.aQ] [(0,1,a),(1,1,b),(2,1,c),(3,1,o)] p) λq r=>aA (fO 143 q r) λs t=>a! (ss 10 s f) t
def Py:Rg:=λf h=>gtO (ge 0 f) λa=>gtO (ge 10 f) λb=>gtO (ge 7 f) λc=>aA (aC 1 c h) λd i=>aA (aF d i) λj m=>aA (bJ 3 j (Y U 1) m) λn o=>aA (aC 1 n o) λp q=>aA (aF p q) λr s=>aA (Dy [r] s) λt u=>aA (SQ [a,b,t] u) λv w=>aA (fC 145 [(Y U 0),(H []),(K false),(K false),(K false)] w) λx y=>aA (aT 5 x v y) λ_ z=>a! (ss 11 x f) z
def JO:Rg:=λf h=>gtO (ge 7 f) λa=>aA (aC 1 a h) λb c=>aA (aF b c) λd i=>aA (bJ 3 d (Y U 0) i) λj m=>aA (aC 1 j m) λn o=>aA (aF n o) λp q=>a! (ss 12 p f) q
def JM:Rg:=λf h=>gtO (ge 11 f) λa=>aA (aC 0 a h) λb c=>aA (aF b c) λd i=>aA (aJ .eql .none d (Y U 1) i) λj m=>a! (ss 66 j f) m
def Zn:Rg:=λf h=>gtO (ge 12 f) λa=>aA (aJ .add .none a (H [32,78,79,32]) h) λb c=>gtO (ge 11 f) λd=>aA (aC 1 d c) λi j=>aA (aF i j) λm n=>aA (aJ .add .none b m n) λo p=>aA (aJ .add .none o (H [13,10]) p) λq r=>a! (ss 9 (K true) (ss 8 q f)) r
def RF:Rg:=λf h=>gtO (ge 11 f) λa=>aA (aC 0 a h) λb c=>aA (aF b c) λd i=>aA (aJ .eql .none d (Y U 2) i) λj m=>a! (ss 76 j f) m
def ah4:Rg:=λf h=>gtO (ge 12 f) λa=>aA (aJ .add .none a (H [32,66,65,68,32]) h) λb c=>gtO (ge 11 f) λd=>aA (aC 1 d c) λi j=>aA (aF i j) λm n=>aA (aJ .add .none b m n) λo p=>aA (aJ .add .none o (H [13,10]) p) λq r=>a! (ss 9 (K true) (ss 8 q f)) r
def RD:Rg:=λf h=>gtO (ge 11 f) λa=>aA (aC 3 a h) λb c=>aA (aF b c) λd i=>aA (oUn .not d i) λj m=>a! (ss 88 j f) m
def Zm:Rg:=λf h=>gtO (ge 0 f) λa=>aA (aN a (aI 0 h)) λb _=>aA (aC 1 b (aI 0 h)) λc _=>aA (aF c (aI 0 h)) λd _=>gtO (ge 1 f) λi=>gtO (ge 11 f) λj=>aA (aC 4 j (aI 0 h)) λm _=>aA (aF m (aI 0 h)) λn _=>aA (oUn .not n (aI 0 h)) λo _=>aA (XJ [d,i,o] (aI 0 h)) λp q=>gtO (ge 10 f) λr=>aA (aN r q) λs _=>aA (aC 5 s q) λt _=>aA (xM [t,p] q) λu v=>a! f v
def Zl:Rg:=λf h=>gtO (ge 11 f) λa=>aA (aC 1 a h) λb c=>aA (aF b c) λd i=>aA (aJ .neq .none d (H []) i) λj m=>a! (ss 104 j f) m
def ah3:Rg:=λf h=>gtO (ge 10 f) λa=>gtO (ge 12 f) λb=>gtO (ge 11 f) λc=>aA (aC 1 c h) λd i=>aA (aF d i) λj m=>aA (aJ .add .none (H [91]) j m) λn o=>aA (aJ .add .none n (H [93]) o) λp q=>aA (bY 9 [(H []),(H []),(H []),(H [])] 4 [(0,1,b),(1,1,(H [79,75])),(2,1,p),(3,1,(H [100,111,110,101]))] q) λr s=>aA (zi [a,r] s) λt u=>a! f u
def ah2:Rg:=λf h=>gtO (ge 10 f) λa=>gtO (ge 12 f) λb=>aA (bY 9 [(H []),(H [])] 2 [(0,1,b),(1,1,(H [79,75,32,100,111,110,101]))] h) λc d=>aA (zi [a,c] d) λi j=>a! f j
def Zk:Rg:=λf h=>gtO (ge 10 f) λa=>aA (aN a (aI 0 h)) λb _=>aA (aC 5 b (aI 0 h)) λc _=>aA (Ir [c] (aI 0 h)) λd i=>gtO (ge 11 f) λj=>aA (aC 2 j i) λm _=>aA (aF m i) λn _=>chk (λh=>aF m h) n ( aA (oUn .not n i) λo _=>a! (ss 9 o (ss 8 d f)) i) 1 [(aI 0 h)]
def ayD:Rg:=(aB PK (aB (bK 0 (aB PI (aV (.tmp 13) (aB amT c!) (aB PG (aV (.tmp 20) (aB amS c!) (aB PE (aV (.tmp 24) (aB amR c!) a!))))))) (aB PD (aB Pz (aB Py (aB JO (aB (bK 1 (aB JM (aV (.tmp 66) (aB Zn c!) (aB RF (aV (.tmp 76) (aB ah4 c!) a!))))) (aB (aB RD (aV (.tmp 88) Zm a!)) (aB (aB Zl (aV (.tmp 104) ah3 ah2)) (aB Zk c!))))))))))
def ae7:Fun:=bC b! (kp [0,1,2,3,7,8,9,10,11,12,13,20,24,66,76,88,104]) Tryz.f42.ntmps [.tmp 8,.tmp 9] ayD
theorem aDF(a b c d:V)(h:Hp):ae7 [a,b,c,d] h=aU b! [.tmp 8,.tmp 9] (ayD (ss 3 d (ss 2 c (ss 1 b (ss 0 a T.nil)))) h):=kR
theorem aKE:aG b! aH 42 ae7:=prX aO [] [(16,[0,1,3,0,8,24,56,0,0,256,768,2040,4095],fM [48,64,80,99,112,128,147,160,178,0,16,32,194]),(20,[0,1,3,7,0,16,48,15,255],fM [0,16,32,50,64,84,96,112,128])] (aW aBf (aW aBe (aW alk (aW aJ4 (aW aJ3 (aW alj (aW ayN (aW asV bF)))))))) Tryz.func42
abbrev VK:Fun:=Ik.awD
theorem aug:aG b! aH 14 VK:=Ik.aHz
abbrev SG:Fun:=Ik.arT
theorem asO:aG b! aH 104 SG:=Ik.aC8
def ag5:FuncId->Option Fun:=tK [(104,SG)]
def aaY:=rC 4 (Y U 0)
def aaX:=rC 5 (.func (.func 104) .nil .nil)
def aaW:Rg:=λf h=>gtO (ge 5 f) λa=>gtO (ge 1 f) λb=>aA (dK ag5 a [b,(H [105,110,45,114,101,112,108,121,45,116,111])] h) λc d=>a! (ss 6 c f) d
def aaV:=r1 13 6 λa h=>aJ .eql .none a (H []) h
def aaU:=rC 4 (Y U 0)
def aHP:Rg:=zz
def U5:Rg:=(aB aaY (aB aaX (aB aaW (aB (aB aaV (aV (.tmp 13) (aB aaU c!) a!)) zz))))
def KC:Fun:=bC b! (kp [0,1,4,5,6,8,13,17,18,19,20,28]) Tryz.f48.ntmps [.tmp 4] U5
theorem am8(a b:V)(h:Hp):KC [a,b] h=aU b! [.tmp 4] (U5 (ss 1 b (ss 0 a T.nil)) h):=kR
theorem auc:aG b! aH 48 KC:=prX aO [5,6,7,8,9,10,11] [] (aW asO bF) Tryz.func48
def abe:Rg:=λf h=>a! (ss 11 (Y U 0) (ss 10 (Y U 0) f)) h
def abd:=r1 22 0 λa h=>aJ .eql (.ptr 16) a .bP h
def abb:Rg:=λf h=>gtO (ge 1 f) λa=>aA (aZ 2 a h) λb c=>aA (aJ .eql .none b (Y U 0) c) λd i=>ifB d (a! (ss 33 (K true) f) i) (gtO (ge 3 f) λj=>aA (aJ .lss .none j (Y U 0) i) λm n=>ifB m (a! (ss 33 (K true) f) n) (aA (aJ .gtr .none j (Y U 253402300799) n) λo p=>a! (ss 33 o f) p))
def aa9:Rg:=λf h=>gtO (ge 2 f) λa=>aA (MX [a] h) λb c=>aA (dA 0 b c) λd i=>aA (dA 1 b i) λj m=>a! (ss 13 j (ss 12 d f)) m
def aa8:=r1 40 13 λa h=>aJ .neq .none a (Y U 0) h
def aa7:Rg:=λf h=>gtO (ge 0 f) λa=>gtO (ge 1 f) λb=>aA (KA [a,b] h) λc d=>aA (dA 0 c d) λi j=>aA (dA 1 c j) λm n=>a! (ss 15 m (ss 14 i f)) n
def aa6:=r1 48 15 λa h=>oUn .not a h
def Xk:Rg:=λf h=>gtO (ge 0 f) λa=>aA (aN a (aI 0 h)) λb _=>aA (aC 11 b (aI 0 h)) λc _=>aA (aF c (aI 0 h)) λd _=>aA (aZ 2 d (aI 0 h)) λi _=>gtO (ge 0 f) λj=>aA (aN j (aI 0 h)) λm _=>aA (aC 0 m (aI 0 h)) λn _=>aA (aC 2 n (aI 0 h)) λo _=>aA (aF o (aI 0 h)) λp _=>aA (aJ .geq .none i p (aI 0 h)) λq _=>a! (ss 51 q f) (aI 0 h)
def Xj:Rg:=λf h=>gtO (ge 4 f) λa=>aA (aZ 1 a (aI 0 h)) λb _=>gtO (ge 0 f) λc=>aA (aN c (aI 0 h)) λd _=>aA (aC 0 d (aI 0 h)) λi _=>aA (aC 4 i (aI 0 h)) λj _=>aA (aF j (aI 0 h)) λm _=>gtO (ge 0 f) λn=>aA (aN n (aI 0 h)) λo _=>aA (aC 15 o (aI 0 h)) λp _=>aA (aF p (aI 0 h)) λq _=>aA (aJ .sub .none m q (aI 0 h)) λr _=>aA (aJ .gtr .none b r (aI 0 h)) λs _=>a! (ss 51 s f) (aI 0 h)
def Xi:=r1 76 0 λa h=>Fb [a] h
def Xh:Rg:=λf h=>gtO (ge 14 f) λa=>gtO (ge 0 f) λb=>aA (eP (.func 47) [b] [] h) λc d=>aA (jb [a,c] d) λi j=>a! (ss 76 i f) j
def Xg:=r1 16 0 λa h=>E8 [a] h
def Xf:Rg:=λf h=>gtO (ge 0 f) λa=>aA (aN a h) λb c=>aA (aC 14 b c) λd i=>aA (aF d i) λj m=>aA (aJ .add .none j (Y U 1) m) λn o=>aA (aN a o) λp q=>aA (aC 14 p q) λr s=>aA (aT 1 r n s) λ_ t=>a! f t
def Xe(fr:F)(h:Hp):Out:=
 gtO (ge 0 fr) λa=>gtO (ge 4 fr) λb=>aA (KC [a,b] (aI 1 h)) λc d=>
 gtO (ge 0 fr) λi=>aA (aN i d) λj _=>
 aA (aC 14 j d) λm _=>
 aA (aF m d) λn _=>chk (λh=>aF m h) n (
 gtO (ge 4 fr) λo=>gtO (ge 3 fr) λp=>gtO (ge 12 fr) λq=>gtO (ge 16 fr) λr=>gtO (ge 16 fr) λs=>aA (bQ [(Y U 0),(Y U 0),(H []),(Y U 0),.aQ,.aQ,(Y U 0),(Y U 0)] [(0,1,n),(1,1,c),(2,1,o),(3,1,p),(4,1,q),(6,1,r),(7,1,s)] d) λt _=>
 FQ (YV 40 [(Y U 0),(Y U 0),(H []),(Y U 0),.aQ,.aQ,(Y U 0),(Y U 0)]) λf e=>
 aA (aT 8 (e (Hp.next h)) t (Hp.put d (Hp.next h) (some f))) λ_ u=>
 a! (ss 17 (e (Hp.next h)) fr) u) 1 [(aI 1 h)]
def Xd:=rC 18 (Y U 2)
def Xc:Rg:=λf h=>gtO (ge 17 f) λa=>aA (aC 1 a h) λb c=>aA (aF b c) λd i=>aA (aJ .eql .none d (Y U 0) i) λj m=>a! (ss 107 j f) m
def Xb:Rg:=λf h=>gtO (ge 17 f) λa=>aA (aC 0 a h) λb c=>aA (aF b c) λd i=>aA (aC 1 a i) λj m=>aA (aT 1 j d m) λ_ n=>a! (ss 18 (Y U 1) f) n
def W9:Rg:=λf h=>gtO (ge 14 f) λa=>aA (aZ 2 a h) λb c=>a! (ss 113 (Y U 0) (ss 112 b (ss 111 a f))) c
def WZ:=r2 114 113 112 λa b h=>aJ .lss .none a b h
def WY:Rg:=λf h=>gtO (ge 111 f) λa=>gtO (ge 113 f) λb=>aA (bJ 1 a b h) λc d=>aA (aF c d) λi j=>a! (ss 20 i f) j
def WX(fr:F)(h:Hp):Out:=
 gtO (ge 0 fr) λa=>gtO (ge 20 fr) λb=>aA (KD [a,b] (aI 1 h)) λc d=>
 gtO (ge 17 fr) λi=>aA (aC 5 i d) λj _=>
 aA (aF j d) λm _=>chk (λh=>aF j h) m (
 FQ (eH 106 [(Y U 0),(Y U 0)] 1 [(0,2,c)]) λf e=>
 aA (cZ 106 2 16 m (e (Hp.next h)) (Hp.put d (Hp.next h) (some f))) λn o=>
 gtO (ge 17 fr) λp=>aA (aC 5 p o) λq _=>
 aA (aT 1 q n o) λ_ r=>
 a! fr r) 1 [(aI 1 h)]
def WW:=r1 113 113 λa h=>aJ .add .none a (Y U 1) h
def WV(fr:F)(h:Hp):Out:=
 gtO (ge 0 fr) λa=>aA (aN a (aI 1 h)) λb _=>
 aA (aC 11 b (aI 1 h)) λc _=>
 aA (aF c (aI 1 h)) λd _=>
 gtO (ge 17 fr) λi=>aA (bT 8 i (aI 1 h)) λj _=>
 FQ (eH 40 [(Y U 0),(Y U 0),(H []),(Y U 0),.aQ,.aQ,(Y U 0),(Y U 0)] 1 [(0,8,j)]) λf e=>
 aA (cZ 40 8 104 d (e (Hp.next h)) (Hp.put (aI 1 h) (Hp.next h) (some f))) λm n=>
 gtO (ge 0 fr) λo=>aA (aN o n) λp _=>
 aA (aC 11 p n) λq _=>
 aA (aT 1 q m n) λ_ r=>
 a! fr r
def WU:Rg:=λf h=>gtO (ge 0 f) λa=>aA (aN a h) λb c=>aA (aC 15 b c) λd i=>aA (aF d i) λj m=>gtO (ge 4 f) λn=>aA (aZ 1 n m) λo p=>aA (aJ .add .none j o p) λq r=>aA (aN a r) λs t=>aA (aC 15 s t) λu v=>aA (aT 1 u q v) λ_ w=>a! f w
def WT(fr:F)(h:Hp):Out:=
 gtO (ge 0 fr) λa=>gtO (ge 16 fr) λb=>gtO (ge 14 fr) λc=>aA (xX [a,b,c] (aI 1 h)) λd i=>
 gtO (ge 16 fr) λj=>gtO (ge 17 fr) λm=>aA (aC 0 m i) λn _=>
 aA (aF n i) λo _=>chk (λh=>aF n h) o (
 aA (bQ [(Y U 0),(Y U 0),(Y U 0),(Y U 0)] [(0,1,j),(1,1,(Y U 2)),(2,1,o),(3,1,(Y U 1))] i) λp _=>
 gtO (ge 16 fr) λq=>gtO (ge 17 fr) λr=>aA (aC 1 r i) λs _=>
 aA (aF s i) λt _=>chk (λh=>aF s h) t (
 gtO (ge 18 fr) λu=>aA (bQ [(Y U 0),(Y U 0),(Y U 0),(Y U 0)] [(0,1,q),(1,1,(Y U 3)),(2,1,t),(3,1,u)] i) λv _=>
 FQ (eH 85 [(Y U 0),(Y U 0),(Y U 0),(Y U 0),(Y U 0),(Y U 0),(Y U 0),(Y U 0)] 2 [(0,4,p),(4,4,v)]) λf e=>
 aA (cZ 85 4 32 d (e (Hp.next h)) (Hp.put i (Hp.next h) (some f))) λw x=>
 gtO (ge 0 fr) λy=>aA (aN y x) λz _=>
 aA (aC 12 z x) λg _=>
 aA (aF g x) λk _=>chk (λh=>aF g h) k (
 aA (Eb [k,w] x) λB l=>
 a! fr l) 2 [i,(aI 1 h)]) 1 [(aI 1 h)]) 1 [(aI 1 h)]
def WR:Rg:=λf h=>gtO (ge 17 f) λa=>aA (aC 0 a h) λb c=>aA (aF b c) λd i=>a! (ss 11 (Y U 0) (ss 10 d f)) i
def am3:Rg:=(aB WZ (aB (aV (.tmp 114) a! (Out.ex 1)) (aB (bK 2 (aB WY WX)) WW)))
def Kv:Rg:=(aB abe (aB (aB abd (aV (.tmp 22) zz a!)) (aB (aB abb (aV (.tmp 33) zz a!)) (aB aa9 (aB (aB aa8 (aV (.tmp 40) zz a!)) (aB aa7 (aB (bK 0 (aB aa6 (aV (.tmp 48) zz (aB (aB Xk (aV (.tmp 51) a! Xj)) (aV (.tmp 51) zz (aB (aB Xi (aV (.tmp 76) a! Xh)) (aV (.tmp 76) zz a!))))))) (aB Xg (aB Xf (aB Xe (aB Xd (aB (aB Xc (aV (.tmp 107) Xb a!)) (aB (aB W9 (bK 1 (dI am3 lf))) (aB WV (aB WU (aB WT (aB WR c!)))))))))))))))))
def KF:Fun:=bC b! (kp [0,1,2,3,4,10,11,12,13,14,15,16,17,18,20,22,33,40,48,51,76,107,111,112,113,114]) Tryz.f20.ntmps [.tmp 10,.tmp 11] Kv
theorem anb(a b c d e:V)(h:Hp):KF [a,b,c,d,e] h=aU b! [.tmp 10,.tmp 11] (Kv (ss 4 e (ss 3 d (ss 2 c (ss 1 b (ss 0 a T.nil))))) h):=kR
theorem auf:aG b! aH 20 KF:=prX aO [2,4,7,10,13,16] [(11,[0,1,3,7,15,0,32,96,224,480,1023,2047],fM [0,16,32,51,64,80,96,112,128,147,160,176]),(12,[0,1,0,4,12,28,60,0,128,384,896,2044,4095,8191],fM [0,16,32,48,64,80,99,112,128,144,163,176,192,208]),(19,[0,1,3,7,0,0,48,0,0,0,0,0,4095,0,16383],fM [64,80,98,0,16,32,52,112,128,144,160,176,192,209,226]),(26,[0,1,0,0,12,28,63,127,255],fM [32,48,66,0,20,81,98,112,130]),(28,[0,0,2,6,14,0,32,126,255,511,1023],fM [16,32,48,67,83,97,114,0,128,144,162]),(30,[0,1,3,7,0,0,0,112,0,0,512,1792,0,0,8192,0,61440,130816,262128,524287],fM [64,80,96,114,128,144,164,176,192,208,228,240,256,273,290,0,16,32,53,306])] (aW aow (aW aub (aW ad9 (aW H6 (aW ad8 (aW auc (aW aud (aW VB (aW aiw bF))))))))) Tryz.func20
def akV:Rg:=λf h=>a! (ss 3 (Y U 0) (ss 2 .bP f)) h
def akU:=r1 5 0 λa h=>aJ .lss .none a (Y U 1) h
def akT:Rg:=λf h=>gtO (ge 0 f) λa=>aA (bQ [(Y U 0),.aQ,(Y U 0)] [(0,1,a)] h) λb c=>aA (fO 130 b c) λd i=>a! (ss 3 (Y U 0) (ss 2 d f)) i
def aip:Rg:=(aB akV (aB (aB akU (aV (.tmp 5) zz a!)) (aB akT c!)))
def Z9:Fun:=bC b! (kp [0,2,3,5]) Tryz.f55.ntmps [.tmp 2,.tmp 3] aip
theorem auy(a:V)(h:Hp):Z9 [a] h=aU b! [.tmp 2,.tmp 3] (aip (ss 0 a T.nil) h):=kR
theorem aDv:aG b! aH 55 Z9:=prX aO [2] [] bF Tryz.func55
def akG:Rg:=λf h=>gtO (ge 0 f) λa=>aA (fO 62 a h) λb c=>a! (ss 3 (Y U 0) (ss 2 .bP (ss 1 b f))) c
def akF:Rg:=λf h=>gtO (ge 1 f) λa=>aA (aC 0 a h) λb c=>aA (aF b c) λd i=>aA (vM [d] i) λj m=>aA (oUn .not j m) λn o=>ifB n (a! (ss 18 (K true) f) o) (aA (aC 1 a o) λp q=>aA (aF p q) λr s=>aA (vM [r] s) λt u=>aA (oUn .not t u) λv w=>a! (ss 18 v f) w)
def akE(fr:F)(h:Hp):Out:=
 gtO (ge 1 fr) λa=>aA (aC 2 a h) λb c=>
 aA (aF b c) λd i=>
 aA (aC 3 a i) λj m=>
 aA (aF j m) λn o=>
 aA (aC 4 a o) λp q=>
 aA (aF p q) λr s=>
 aA (aC 5 a s) λt u=>
 aA (aF t u) λv w=>
 aA (aC 6 a w) λx y=>
 aA (aF x y) λz f=>
 aA (aC 7 a f) λg k=>
 aA (aF g k) λl B=>
 aA (aC 8 a B) λC E=>
 aA (aF C E) λG I=>
 aA (bY 3 [(Y U 0),(Y U 0),(Y U 0),(Y U 0),(Y U 0),(Y U 0),(Y U 0)] 7 [(0,1,d),(1,1,n),(2,1,r),(3,1,v),(4,1,z),(5,1,l),(6,1,G)] I) λe J=>
 aA (aZ 2 e J) λL M=>
 a! (ss 35 (Y U 0) (ss 34 L (ss 33 e fr))) M
def akD:=r2 36 35 34 λa b h=>aJ .lss .none a b h
def akC:Rg:=λf h=>gtO (ge 33 f) λa=>gtO (ge 35 f) λb=>aA (bJ 1 a b h) λc d=>aA (aF c d) λi j=>a! (ss 5 i f) j
def akB:Rg:=λf h=>gtO (ge 5 f) λa=>aA (aJ .lss .none a (Y U 1) h) λb c=>ifB b (a! (ss 44 (K true) f) c) (aA (aJ .gtr .none a (Y U 2147483647) c) λd i=>a! (ss 44 d f) i)
def akA:=r1 35 35 λa h=>aJ .add .none a (Y U 1) h
def akz:Rg:=λf h=>gtO (ge 1 f) λa=>aA (aC 7 a h) λb c=>aA (aF b c) λd i=>aA (Z9 [d] i) λj m=>aA (dA 0 j m) λn o=>aA (dA 1 j o) λp q=>a! (ss 6 n f) q
def aga:Rg:=λf h=>gtO (ge 1 f) λa=>aA (bT 9 a h) λb c=>aA (bQ [(Y U 0),(H []),(Y U 0),(Y U 0),(Y U 0),(Y U 0)] [(0,1,(Y U 1)),(1,1,(H [73,78,66,79,88])),(3,1,(Y U 1)),(4,1,(Y U 1)),(5,1,(Y U 1))] c) λd i=>aA (bY 55 [(Y U 0),(H []),(Y U 0),(Y U 0),(Y U 0),(Y U 0)] 1 [(0,6,d)] i) λj m=>gtO (ge 6 f) λn=>aA (bQ [(H []),(H []),(Y U 0),(Y U 0),(Y U 0),(Y U 0),(Y U 0),(Y U 0),(Y U 0),(Y U 0),.aQ,.aQ,.bP,(Y U 0),(Y U 0),(Y U 0)] [(0,9,b),(10,1,j),(12,1,n),(13,1,(Y U 1))] m) λo p=>aA (fO 78 o p) λq r=>a! (ss 8 q f) r
def af9:Rg:=λf h=>gtO (ge 8 f) λa=>aA (aN a h) λb c=>aA (aC 9 b c) λd i=>aA (pI [d,(Y U 1)] i) λj m=>a! f m
def af8:Rg:=λf h=>gtO (ge 8 f) λa=>a! (ss 3 (Y U 0) (ss 2 a f)) h
def ayO:Rg:=(aB akD (aB (aV (.tmp 36) a! (Out.ex 0)) (aB (bK 1 (aB akC (aB akB (aV (.tmp 44) zz a!)))) akA)))
def Zz:Rg:=(aB akG (aB (aB akF (aV (.tmp 18) zz a!)) (aB (aB akE (bK 0 (dI ayO lf))) (aB akz (aB aga (aB af9 (aB af8 c!)))))))
def Z4:Fun:=bC b! (kp [0,1,2,3,5,6,8,18,33,34,35,36,44]) Tryz.f26.ntmps [.tmp 2,.tmp 3] Zz
theorem aur(a:V)(h:Hp):Z4 [a] h=aU b! [.tmp 2,.tmp 3] (Zz (ss 0 a T.nil) h):=kR
theorem aDr:aG b! aH 26 Z4:=prX aO [2,7] [] (aW aos (aW aDv (aW O1 bF))) Tryz.func26
def agv:Rg:=λf h=>aA (fC 62 [(H []),(H []),(Y U 0),(Y U 0),(Y U 0),(Y U 0),(Y U 0),(Y U 0),(Y U 0)] h) λa b=>a! (ss 0 a f) b
def agu:Rg:=λf h=>aA (bQ [(H []),(H []),(Y U 0),(Y U 0),(Y U 0),(Y U 0),(Y U 0),(Y U 0),(Y U 0)] [(0,1,(H [117])),(1,1,(H [112])),(2,1,(Y U 1000)),(3,1,(Y U 100)),(4,1,(Y U 1048576)),(5,1,(Y U 1073741824)),(6,1,(Y U 1073741824)),(7,1,(Y U 10000)),(8,1,(Y U 200))] h) λa b=>gtO (ge 0 f) λc=>aA (aT 9 c a b) λ_ d=>a! f d
def adW:Rg:=(aB agv (aB agu c!))
def Um:Fun:=bC b! (kp [0]) Tryz.f27.ntmps [.cell 0 62] adW
theorem as9(h:Hp):Um [] h=aU b! [.cell 0 62] (adW T.nil h):=kR
theorem aA6:aG b! aH 27 Um:=prX aO [] [] bF Tryz.func27
def akS:=rC 2 (Y U 0)
def akR:=rM 2 0
def aio:Rg:=(aB akS (aB akR c!))
def Z8:Fun:=bC b! (kp [0,2]) Tryz.f28.ntmps [.tmp 2] aio
theorem auw(a:V)(h:Hp):Z8 [a] h=aU b! [.tmp 2] (aio (ss 0 a T.nil) h):=kR
theorem aDt:aG b! aH 28 Z8:=prX aO [] [] bF Tryz.func28
def aAW:=rC 0 .bP
def aAV:Rg:=λf h=>aA (bQ [(K false),.bP,(K false),(Y U 0),.jG] [] h) λa b=>aA (fO 119 a b) λc d=>a! (ss 1 c f) d
def aAU(fr:F)(h:Hp):Out:=
 gtO (ge 1 fr) λa=>aA (X9 h) λb c=>
 aA (eP (.func 57) [a] [] c) λd i=>
 aA (bQ [.fV,(Y U 0),(K false)] [(0,1,d),(1,1,(Y U 0)),(2,1,(K false))] i) λj m=>
 aA (fP .string b (H [99,97,112,97,98,105,108,105,116,121]) j m) λ_ n=>
 aA (eP (.func 58) [a] [] n) λo p=>
 aA (bQ [.fV,(Y U 0),(K false)] [(0,1,o),(1,1,(Y U 0)),(2,1,(K false))] p) λq r=>
 aA (fP .string b (H [110,111,111,112]) q r) λ_ s=>
 aA (eP (.func 59) [a] [] s) λt u=>
 aA (bQ [.fV,(Y U 0),(K false)] [(0,1,t),(1,1,(Y U 0)),(2,1,(K false))] u) λv w=>
 aA (fP .string b (H [108,111,103,111,117,116]) v w) λ_ x=>
 aA (eP (.func 60) [a] [] x) λy z=>
 aA (bQ [.fV,(Y U 0),(K false)] [(0,1,y),(1,1,(Y U 1)),(2,1,(K false))] z) λe f=>
 aA (fP .string b (H [108,111,103,105,110]) e f) λ_ g=>
 aA (eP (.func 61) [a] [] g) λk l=>
 aA (bQ [.fV,(Y U 0),(K false)] [(0,1,k),(1,1,(Y U 2)),(2,1,(K false))] l) λB C=>
 aA (fP .string b (H [115,101,108,101,99,116]) B C) λ_ E=>
 aA (eP (.func 62) [a] [] E) λG I=>
 aA (bQ [.fV,(Y U 0),(K false)] [(0,1,G),(1,1,(Y U 2)),(2,1,(K false))] I) λJ L=>
 aA (fP .string b (H [101,120,97,109,105,110,101]) J L) λ_ M=>
 aA (eP (.func 63) [a] [] M) λP Q=>
 aA (bQ [.fV,(Y U 0),(K false)] [(0,1,P),(1,1,(Y U 2)),(2,1,(K false))] Q) λS W=>
 aA (fP .string b (H [99,114,101,97,116,101]) S W) λ_ Z=>
 aA (eP (.func 64) [a] [] Z) λau av=>
 aA (bQ [.fV,(Y U 0),(K false)] [(0,1,au),(1,1,(Y U 2)),(2,1,(K false))] av) λaw ax=>
 aA (fP .string b (H [100,101,108,101,116,101]) aw ax) λ_ ay=>
 aA (eP (.func 65) [a] [] ay) λaz ba=>
 aA (bQ [.fV,(Y U 0),(K false)] [(0,1,az),(1,1,(Y U 2)),(2,1,(K false))] ba) λbb bc=>
 aA (fP .string b (H [114,101,110,97,109,101]) bb bc) λ_ bd=>
 aA (eP (.func 66) [a] [] bd) λbe bf=>
 aA (bQ [.fV,(Y U 0),(K false)] [(0,1,be),(1,1,(Y U 2)),(2,1,(K false))] bf) λbg bh=>
 aA (fP .string b (H [108,105,115,116]) bg bh) λ_ bi=>
 aA (eP (.func 67) [a] [] bi) λbj bk=>
 aA (bQ [.fV,(Y U 0),(K false)] [(0,1,bj),(1,1,(Y U 2)),(2,1,(K false))] bk) λbl bm=>
 aA (fP .string b (H [115,116,97,116,117,115]) bl bm) λ_ bn=>
 aA (eP (.func 68) [a] [] bn) λbo bp=>
 aA (bQ [.fV,(Y U 0),(K false)] [(0,1,bo),(1,1,(Y U 2)),(2,1,(K false))] bp) λbq br=>
 aA (fP .string b (H [97,112,112,101,110,100]) bq br) λ_ bs=>
 aA (eP (.func 58) [a] [] bs) λbt bu=>
 aA (bQ [.fV,(Y U 0),(K false)] [(0,1,bt),(1,1,(Y U 3)),(2,1,(K false))] bu) λbv bw=>
 aA (fP .string b (H [99,104,101,99,107]) bv bw) λ_ bx=>
 aA (eP (.func 69) [a] [] bx) λbz ca=>
 aA (bQ [.fV,(Y U 0),(K false)] [(0,1,bz),(1,1,(Y U 3)),(2,1,(K false))] ca) λcb cc=>
 aA (fP .string b (H [99,108,111,115,101]) cb cc) λ_ cd=>
 aA (eP (.func 70) [a] [] cd) λce cf=>
 aA (bQ [.fV,(Y U 0),(K false)] [(0,1,ce),(1,1,(Y U 3)),(2,1,(K true))] cf) λcg ch=>
 aA (fP .string b (H [101,120,112,117,110,103,101]) cg ch) λ_ ci=>
 aA (eP (.func 71) [a] [] ci) λcj ck=>
 aA (bQ [.fV,(Y U 0),(K false)] [(0,1,cj),(1,1,(Y U 3)),(2,1,(K true))] ck) λcl cm=>
 aA (fP .string b (H [115,101,97,114,99,104]) cl cm) λ_ cn=>
 aA (eP (.func 72) [a] [] cn) λco cp=>
 aA (bQ [.fV,(Y U 0),(K false)] [(0,1,co),(1,1,(Y U 3)),(2,1,(K true))] cp) λcq cr=>
 aA (fP .string b (H [102,101,116,99,104]) cq cr) λ_ cs=>
 aA (eP (.func 73) [a] [] cs) λct cu=>
 aA (bQ [.fV,(Y U 0),(K false)] [(0,1,ct),(1,1,(Y U 3)),(2,1,(K true))] cu) λcv cw=>
 aA (fP .string b (H [115,116,111,114,101]) cv cw) λ_ cx=>
 aA (eP (.func 74) [a] [] cx) λcy cz=>
 aA (bQ [.fV,(Y U 0),(K false)] [(0,1,cy),(1,1,(Y U 3)),(2,1,(K true))] cz) λda db=>
 aA (fP .string b (H [99,111,112,121]) da db) λ_ dc=>
 aA (eP (.func 75) [a] [] dc) λdd de=>
 aA (bQ [.fV,(Y U 0),(K false)] [(0,1,dd),(1,1,(Y U 3)),(2,1,(K true))] de) λdf dg=>
 aA (fP .string b (H [109,111,118,101]) df dg) λ_ dh=>
 aA (aN a dh) λdi dj=>
 aA (aC 4 di dj) λdk dl=>
 aA (aT 1 dk b dl) λ_ dm=>
 a! fr dm
def aAT:=rM 0 1
def aDl:Rg:=(aB aAW (aB aAV (aB aAU (aB aAT c!))))
def ayT:Fun:=bC b! (kp [0,1]) Tryz.f29.ntmps [.tmp 0] aDl
theorem aHM(h:Hp):ayT [] h=aU b! [.tmp 0] (aDl T.nil h):=kR
theorem aLi:aG b! aH 29 ayT:=prX aO [] [] bF Tryz.func29
abbrev aiD:Fun:=Ik.amy
theorem aDu:aG b! aH 40 aiD:=Ik.aGV
abbrev aox:Fun:=Ik.uQ
theorem aA4:aG b! aH 41 aox:=Ik.aGU
def akQ:=rC 6 (H [])
def akP:Rg:=λf h=>aA (aiD [(Y U 4000)] h) λa b=>gtO (ge 2 f) λc=>aA (Eh c b) λd i=>aA (aox [a,d] i) λj m=>a! (ss 7 j f) m
def akO:=rC 8 (H [])
def akN:=rC 9 (Y U 0)
def OV:Rg:=λf h=>gtO (ge 9 f) λa=>gtO (ge 7 f) λb=>aA (aZ 2 b h) λc d=>aA (aJ .lss .none a c d) λi j=>a! (ss 19 i f) j
def Y4:Rg:=λf h=>gtO (ge 0 f) λa=>gtO (ge 1 f) λb=>gtO (ge 7 f) λc=>gtO (ge 9 f) λd=>aA (bJ 2 c d h) λi j=>aA (bT 2 i j) λm n=>aA (ae7 [a,b,(Y U 0),m] n) λo p=>aA (dA 0 o p) λq r=>aA (dA 1 o r) λs t=>a! (ss 11 s (ss 10 q f)) t
def Y3:=r2 8 8 10 λa b h=>aJ .add .none a b h
def Y2:=r1 36 11 λa h=>oUn .not a h
def akM:=r1 9 9 λa h=>aJ .add .none a (Y U 1) h
def akL:=rM 6 8
def O3:Rg:=(aB (aB OV (aV (.tmp 19) a! (Out.ex 0))) (aB (bK 1 (aB Y4 (aB Y3 (aB Y2 (aV (.tmp 36) (Out.ex 0) a!))))) akM))
def ZG:Rg:=(aB akQ (aB akP (aB akO (aB (aB akN (bK 0 (dI O3 lf))) (aB akL c!)))))
def uh:Fun:=bC b! (kp [0,1,2,6,7,8,9,10,11,19,36]) Tryz.f13.ntmps [.tmp 6] ZG
theorem auv(a b c:V)(h:Hp):uh [a,b,c] h=aU b! [.tmp 6] (ZG (ss 2 c (ss 1 b (ss 0 a T.nil))) h):=kR
theorem asQ:aG b! aH 13 uh:=prX aO [] [] (aW aDu (aW aA4 (aW aKE bF))) Tryz.func13
def aod:=rC 2 .bP
def aoc:Rg:=λf h=>aA (ayT [] h) λa b=>a! (ss 3 a f) b
def aob:Rg:=λf h=>gtO (ge 3 f) λa=>gtO (ge 0 f) λb=>aA (uh [a,b,(H [97,32,76,79,71,73,78,32,117,32,112,13,10,98,32,83,69,76,69,67,84,32,73,78,66,79,88,13,10])] h) λc d=>a! f d
def aoa:=rM 2 3
def amX:Rg:=(aB aod (aB aoc (aB aob (aB aoa c!))))
def ae5:Fun:=bC b! (kp [0,2,3]) Tryz.f12.ntmps [.tmp 2] amX
theorem ayS(a:V)(h:Hp):ae5 [a] h=aU b! [.tmp 2] (amX (ss 0 a T.nil) h):=kR
theorem aHL:aG b! aH 12 ae5:=prX aO [] [] (aW aLi (aW asQ bF)) Tryz.func12
def abn:=rC 2 .bP
def abm:Rg:=λf h=>aA (Um [] h) λa b=>aA (Z4 [a] b) λc d=>aA (dA 0 c d) λi j=>aA (dA 1 c j) λm n=>a! (ss 4 m (ss 3 i f)) n
def abl:Rg:=λf h=>gtO (ge 4 f) λa=>aA (Z8 [a] h) λb c=>aA (aJ .neq .none b (Y U 0) c) λd i=>ifB d (a! (ss 17 (K true) f) i) (gtO (ge 3 f) λj=>aA (aJ .eql (.ptr 16) j .bP i) λm n=>a! (ss 17 m f) n)
def abk:=rC 5 (Y U 0)
def Nr:Rg:=λf h=>gtO (ge 5 f) λa=>gtO (ge 0 f) λb=>aA (aZ 2 b h) λc d=>aA (aJ .lss .none a c d) λi j=>a! (ss 21 i f) j
def abh:Rg:=λf h=>gtO (ge 3 f) λa=>aA (bY 3 [(Y U 0)] 1 [(0,1,(Y U 1))] h) λb c=>gtO (ge 5 f) λd=>gtO (ge 0 f) λi=>aA (bJ 1 i d c) λj m=>aA (aF j m) λn o=>aA (KF [a,b,.aQ,d,n] o) λp q=>a! f q
def abj:=r1 5 5 λa h=>aJ .add .none a (Y U 1) h
def abg:=rM 2 3
def NS:Rg:=(aB (aB Nr (aV (.tmp 21) a! (Out.ex 0))) (aB (bK 1 abh) abj))
def Kw:Rg:=(aB abn (aB abm (aB (aB abl (aV (.tmp 17) zz a!)) (aB (aB abk (bK 0 (dI NS lf))) (aB abg c!)))))
def KG:Fun:=bC b! (kp [0,2,3,4,5,17,21]) Tryz.f10.ntmps [.tmp 2] Kw
theorem anc(a:V)(h:Hp):KG [a] h=aU b! [.tmp 2] (Kw (ss 0 a T.nil) h):=kR
theorem auh:aG b! aH 10 KG:=prX aO [3] [] (aW aA6 (aW aDr (aW aDt (aW auf bF)))) Tryz.func10
abbrev tq:Fun:=Ik.aAs
theorem ayI:aG b! aH 9 tq:=Ik.aJB
def nC:=rC 4 (K false)
def ny:Rg:=λf h=>gtO (ge 0 f) λa=>aA (aZ 2 a h) λb c=>aA (aJ .eql .none b (Y U 0) c) λd i=>ifB d (a! (ss 23 (K true) f) i) (aA (aZ 2 a i) λj m=>aA (aJ .gtr .none j (Y U 20) m) λn o=>a! (ss 23 n f) o)
def qo:Rg:=λf h=>aA (tq [] h) λa b=>a! (ss 4 a f) b
def wM:Rg:=λf h=>gtO (ge 0 f) λa=>aA (aZ 2 a h) λb c=>aA (vZ 9 16 [(H [])] b b c) λd i=>aA (KG [d] i) λj m=>a! (ss 5 j f) m
def wL:=r1 30 5 λa h=>aJ .eql (.ptr 16) a .bP h
def D8:=rC 4 (K false)
def wK:=rC 6 (Y U 0)
def wJ:=rC 7 (Y U 0)
def wI:Rg:=λf h=>gtO (ge 7 f) λa=>gtO (ge 0 f) λb=>aA (aZ 2 b h) λc d=>aA (aJ .lss .none a c d) λi j=>a! (ss 34 i f) j
def CJ:Rg:=λf h=>gtO (ge 0 f) λa=>gtO (ge 7 f) λb=>aA (bJ 1 a b h) λc d=>aA (aF c d) λi j=>a! (ss 40 i f) j
def Ou:Rg:=λf h=>gtO (ge 5 f) λa=>gtO (ge 7 f) λb=>aA (aJ .add .none b (Y U 1) h) λc d=>aA (bY 9 [(H [])] 1 [(0,1,(H [36,100,101,108,101,116,101,100]))] d) λi j=>aA (MO [a,c,i] j) λm n=>a! f n
def Ot:=r1 6 6 λa h=>aJ .add .none a (Y U 1) h
def D7:=r1 7 7 λa h=>aJ .add .none a (Y U 1) h
def CG:=r1 8 5 λa h=>ae5 [a] h
def CB:=r1 51 1 λa h=>aJ .rem .none a (Y .u8 4) h
def jS:=r1 52 51 λa h=>aJ .eql .none a (Y .u8 0) h
def Cm:=r2 9 8 5 λa b h=>uh [a,b,(H [120,32,69,88,80,85,78,71,69,13,10])] h
def lT:=rC 10 (H [])
def lS:Rg:=λf h=>a! (ss 12 (Y U 0) (ss 11 (Y U 0) f)) h
def uz:Rg:=λf h=>gtO (ge 11 f) λa=>gtO (ge 0 f) λb=>aA (aZ 2 b h) λc d=>aA (aJ .lss .none a c d) λi j=>a! (ss 60 i f) j
def Ci:Rg:=λf h=>gtO (ge 0 f) λa=>gtO (ge 11 f) λb=>aA (bJ 1 a b h) λc d=>aA (aF c d) λi j=>a! (ss 66 i f) j
def Oq:Rg:=λf h=>gtO (ge 10 f) λa=>aA (aJ .add .none a (H [42,32]) h) λb c=>gtO (ge 12 f) λd=>aA (aJ .add .none d (Y U 1) c) λi j=>aA (VK [i] j) λm n=>aA (aJ .add .none b m n) λo p=>aA (aJ .add .none o (H [32,69,88,80,85,78,71,69,13,10]) p) λq r=>a! (ss 10 q f) r
def Oo:=r1 12 12 λa h=>aJ .add .none a (Y U 1) h
def Cj:=r1 11 11 λa h=>aJ .add .none a (Y U 1) h
def lQ:Rg:=λf h=>gtO (ge 9 f) λa=>gtO (ge 10 f) λb=>aA (aJ .add .none b (H [120,32,79,75,32,100,111,110,101,13,10]) h) λc d=>aA (aJ .eql .none a c d) λi j=>ifB i (gtO (ge 5 f) λm=>aA (jO [m] j) λn o=>aA (aZ 2 n o) λp q=>gtO (ge 6 f) λr=>aA (aJ .eql .none p r q) λs t=>ifB s (aA (tq [] t) λu v=>a! (ss 4 u f) v) (a! (ss 4 (K false) f) t)) (a! (ss 4 (K false) f) j)
def lM:=r1 90 51 λa h=>aJ .eql .none a (Y .u8 1) h
def Ce:=r2 13 8 5 λa b h=>uh [a,b,(H [120,32,67,76,79,83,69,13,10,121,32,67,72,69,67,75,13,10])] h
def Cb:Rg:=λf h=>gtO (ge 13 f) λa=>aA (aJ .eql .none a (H [120,32,79,75,32,100,111,110,101,13,10,121,32,78,79,32,115,116,97,116,101,13,10]) h) λb c=>ifB b (gtO (ge 5 f) λd=>aA (jO [d] c) λi j=>aA (aZ 2 i j) λm n=>gtO (ge 6 f) λo=>aA (aJ .eql .none m o n) λp q=>ifB p (aA (tq [] q) λr s=>a! (ss 4 r f) s) (a! (ss 4 (K false) f) q)) (a! (ss 4 (K false) f) c)
def oQ:=r1 107 51 λa h=>aJ .eql .none a (Y .u8 2) h
def BZ:Rg:=λf h=>gtO (ge 8 f) λa=>gtO (ge 5 f) λb=>aA (uh [a,b,(H [119,32,69,88,65,77,73,78,69,32,73,78,66,79,88,13,10])] h) λc d=>a! f d
def BX:=r2 14 8 5 λa b h=>uh [a,b,(H [120,32,69,88,80,85,78,71,69,13,10,121,32,67,76,79,83,69,13,10])] h
def BV:Rg:=λf h=>gtO (ge 14 f) λa=>aA (aJ .eql .none a (H [120,32,78,79,32,115,116,97,116,101,13,10,121,32,79,75,32,100,111,110,101,13,10]) h) λb c=>ifB b (gtO (ge 5 f) λd=>aA (jO [d] c) λi j=>aA (aZ 2 i j) λm n=>gtO (ge 0 f) λo=>aA (aZ 2 o n) λp q=>aA (aJ .eql .none m p q) λr s=>ifB r (aA (tq [] s) λt u=>a! (ss 4 t f) u) (a! (ss 4 (K false) f) s)) (a! (ss 4 (K false) f) c)
def uw:=r2 15 8 5 λa b h=>uh [a,b,(H [120,32,85,73,68,32,69,88,80,85,78,71,69,32,49,13,10])] h
def uq:Rg:=λf h=>gtO (ge 0 f) λa=>aA (bJ 1 a (Y U 0) h) λb c=>aA (aF b c) λd i=>a! (ss 133 d f) i
def BU:Rg:=λf h=>gtO (ge 15 f) λa=>aA (aJ .eql .none a (H [42,32,49,32,69,88,80,85,78,71,69,13,10,120,32,79,75,32,100,111,110,101,13,10]) h) λb c=>ifB b (gtO (ge 5 f) λd=>aA (jO [d] c) λi j=>aA (aZ 2 i j) λm n=>gtO (ge 0 f) λo=>aA (aZ 2 o n) λp q=>aA (aJ .sub .none p (Y U 1) q) λr s=>aA (aJ .eql .none m r s) λt u=>ifB t (aA (tq [] u) λv w=>a! (ss 4 v f) w) (a! (ss 4 (K false) f) u)) (a! (ss 4 (K false) f) c)
def BR:Rg:=λf h=>gtO (ge 15 f) λa=>aA (aJ .eql .none a (H [120,32,79,75,32,100,111,110,101,13,10]) h) λb c=>ifB b (gtO (ge 5 f) λd=>aA (jO [d] c) λi j=>aA (aZ 2 i j) λm n=>gtO (ge 0 f) λo=>aA (aZ 2 o n) λp q=>aA (aJ .eql .none m p q) λr s=>ifB r (aA (tq [] s) λt u=>a! (ss 4 t f) u) (a! (ss 4 (K false) f) s)) (a! (ss 4 (K false) f) c)
def nG:Rg:=(aB (aB wI (aV (.tmp 34) a! (Out.ex 0))) (aB (bK 1 (aB CJ (aV (.tmp 40) Ou Ot))) D7))
def jh:Rg:=(aB (aB uz (aV (.tmp 60) a! (Out.ex 3))) (aB (bK 4 (aB Ci (aV (.tmp 66) Oq Oo))) Cj))
def JW:Rg:=(aB nC (aB (aB ny (aV (.tmp 23) (aB qo c!) a!)) (aB wM (aB (aB wL (aV (.tmp 30) (aB D8 c!) a!)) (aB wK (aB (aB wJ (bK 0 (dI nG lf))) (aB CG (aB (aB CB (bK 2 (aB jS (aV (.tmp 52) (aB Cm (aB lT (aB (aB lS (bK 3 (dI jh lf))) (aB lQ c!)))) (aB lM (aV (.tmp 90) (aB Ce (aB Cb c!)) (aB oQ (aV (.tmp 107) (aB BZ (aB BX (aB BV c!))) a!)))))))) (aB uw (aB (aB uq (aV (.tmp 133) (aB BU c!) a!)) (aB BR c!)))))))))))
def Bf:Fun:=bC b! (kp [0,1,4,5,6,7,8,9,10,11,12,13,14,15,23,30,34,40,51,52,60,66,90,107,133]) Tryz.f3.ntmps [.tmp 4] JW
theorem afg(a b:V)(h:Hp):Bf [a,b] h=aU b! [.tmp 4] (JW (ss 1 b (ss 0 a T.nil)) h):=kR
theorem am0:aG b! aH 3 Bf:=prX aO [] [] (aW ayI (aW auh (aW aA1 (aW aHL (aW asQ (aW aug (aW OY bF))))))) Tryz.func3
end Go.Proofs.Im
