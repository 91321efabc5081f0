/- Lemmas. No conditions. -/
import Derived.Test.YtpgppmioigacoaaGreatDoorSAI
import Derived.Test.YtpgppmioigacoaaGreatDoorSAP
import Derived.Test.YtpgppmioigacoaaGreatDoorSAK
set_option linter.all false
set_option maxHeartbeats 4000000
set_option maxRecDepth 100000
open Go.Vm.Out renaming nor→a!,ret→b!
open Go.Vm.V renaming int→Y,bool→K,str→H
open Go.IntKind renaming i64→U
noncomputable section
open Go Go.Proofs Go.Vm
namespace Go.Proofs.Im
open Go.Proofs.Tryz
abbrev tA:TypeId:=145
abbrev tCn:TypeId:=119
abbrev tMs:TypeId:=200
def axO:Fun:=Yy U
def aPw:fu 166 axO:=amN func166 kR kR kR U kR
def NU:Fun:=aaF U
def aqy:fu 101 NU:=ayh func101 kR kR kR U kR
def Kq:Fun:=OD
def aov:fu 108 Kq:=ae9 func108 kR kR kR kR
def awX:=rC 4 (Y U 0)
def awW:Rg:=λf h=>f 0 λa=>aS a h λb c=>aF 0 b c λd i=>f 1 λj=>axO [d,j] i λm n=>a! (ss 4 m f) n
def aFj:Rg:=aC awX (aC awW b!)
def ZE:Fun:=c_ [0,1,4] f84.ntmps [.tmp 4] aFj
def aFL:=fE2 ZE rfl
def aFD:fu 84 ZE:=prX aO [] [] (aU aPw bC) func84
def ajP:=rC 2 (Y U 0)
def ajO:Rg:=λf h=>f 0 λa=>aS a h λb c=>aF 0 b c λd i=>NU [d] i λj m=>a! (ss 2 j f) m
def ast:Rg:=aC ajP (aC ajO b!)
def H6:Fun:=c_ [0,2] f44.ntmps [.tmp 2] ast
def axL:=fE1 H6 rfl
def asA:fu 44 H6:=prX aO [] [] (aU aqy bC) func44
def agl:Rg:=λf h=>f 0 λa=>aS a h λb c=>aF 0 b c λd i=>f 1 λj=>Kq [d,j] i λm n=>a! f n
def aol:Rg:=agl
def yK:Fun:=c_ [0,1] f56.ntmps [] aol
def atm:=fE2 yK rfl
def aow:fu 56 yK:=prX aO [] [] (aU aov bC) func56
def awU:=rC 2 (H [])
def awT:Rg:=λf h=>f 0 λa=>aZ 1 a h λb c=>xR 5 1 [(Y .u8 0)] (Y U 0) b c λd i=>a! (ss 3 d f) i
def awS:Rg:=λf h=>f 0 λa=>aZ 1 a h λb c=>a! (ss 11 (Y U 0) (ss 10 b f)) c
def UZ:=r2 12 11 10 λa b h=>aJ .lss .none a b h
def aa9:=rM 4 11
def aa8:=r2 5 0 4 λa b h=>mF a b h
def aa7:Rg:=λf h=>f 5 λa=>aJ .geq .none a (Y .u8 65) h λb c=>ifB b (aJ .leq .none a (Y .u8 90) c λd i=>a! (ss 22 d f) i) (a! (ss 22 (K false) f) c)
def aa6:=r1 5 5 λa h=>aJ .add .none a (Y .u8 32) h
def aa5:Rg:=λf h=>f 3 λa=>f 5 λb=>bP 5 [(Y .u8 0)] 1 [(0,1,b)] h λc d=>bZ 5 1 1 a c d λi j=>a! (ss 3 i f) j
def aa4:=r1 11 11 λa h=>aJ .add .none a (Y U 1) h
def ar5:Rg:=λf h=>f 3 λa=>Bl a h λb c=>a! (ss 2 b f) c
def VG:Rg:=aC UZ (aC (tT 12 a! (Out.ex 0)) (aC (bI 1 (aC aa9 (aC aa8 (aC (aC aa7 (tT 22 aa6 a!)) aa5)))) aa4))
def aFh:Rg:=aC awU (aC awT (aC (aC awS (bI 0 (dI VG lf))) (aC ar5 b!)))
def uY:Fun:=c_ [0,2,3,4,5,10,11,12,22] f95.ntmps [.tmp 2] aFh
def aFK:=fE1 uY rfl
def Zr:fu 95 uY:=prX aO [] [] bC func95
def yJ:Fun:=aCD
def abt:fu 289 yJ:=azM func289 kR kR kR kR
def UG:=r2 4 0 1 λa b h=>yJ [a,b] h
def Zm:Rg:=aC awX (aC UG b!)
def Dl:Fun:=c_ [0,1,4] f184.ntmps [.tmp 4] Zm
def ahZ:=fE2 Dl rfl
def aqv:fu 184 Dl:=prX aO [] [] (aU abt bC) func184
def UI:=r2 4 0 1 λa b h=>Dl [a,b] h
def Zn:Rg:=aC awX (aC UI b!)
def Dp:Fun:=c_ [0,1,4] f107.ntmps [.tmp 4] Zn
def ah0:=fE2 Dp rfl
def aqw:fu 107 Dp:=prX aO [] [] (aU aqv bC) func107
def aiG:=rC 2 (K false)
def aiF:Rg:=λf h=>f 0 λa=>aZ 1 a h λb c=>a! (ss 6 (Y U 0) (ss 5 b f)) c
def aiE:=r2 7 6 5 λa b h=>aJ .lss .none a b h
def Ea:=rM 3 6
def D9:Rg:=λf h=>f 0 λa=>f 3 λb=>mF a b h λc d=>aJ .lss .none c (Y .u8 33) d λi j=>ifB i (a! (ss 25 (K true) f) j) (mF a b j λm n=>aJ .gtr .none m (Y .u8 126) n λo p=>ifB o (a! (ss 25 (K true) f) p) (mF a b p λq r=>Dp [H [40,41,123,125,37,42,34,92,93],q] r λs t=>aJ .geq .none s (Y U 0) t λu v=>a! (ss 25 u f) v))
def aiD:=r1 6 6 λa h=>aJ .add .none a (Y U 1) h
def aiC:=r1 2 0 λa h=>aJ .neq .none a (H []) h
def akd:Rg:=aC aiE (aC (tT 7 a! (Out.ex 0)) (aC (bI 1 (aC Ea (aC D9 (tT 25 (aC aiG b!) a!)))) aiD))
def agy:Rg:=aC aiG (aC (aC aiF (bI 0 (dI akd lf))) (aC aiC b!))
def xH:Fun:=c_ [0,2,3,5,6,7,25] f54.ntmps [.tmp 2] agy
def axt:=fE1 xH rfl
def asv:fu 54 xH:=prX aO [] [] (aU aqw bC) func54
def Au:=rC 2 .aQ
def Ar:=r1 4 0 λa h=>aJ .eql .slice a .aQ h
def Ju:Rg:=λf h=>apc 3 h λa b=>f 0 λc=>bZ 3 1 8 a c b λd i=>a! (ss 2 d f) i
def Fb:Rg:=aC Au (aC (aC Ar (tT 4 (aC Au b!) a!)) (aC Ju b!))
def zf:Fun:=c_ [0,2,4] f86.ntmps [.tmp 2] Fb
def alF:=fE1 zf rfl
def adQ:fu 86 zf:=prX aO [] [] bC func86
def Jv:Rg:=λf h=>apc 55 h λa b=>f 0 λc=>bZ 55 6 56 a c b λd i=>a! (ss 2 d f) i
def Fe:Rg:=aC Au (aC (aC Ar (tT 4 (aC Au b!) a!)) (aC Jv b!))
def Fh:Fun:=c_ [0,2,4] f53.ntmps [.tmp 2] Fe
def alG:=fE1 Fh rfl
def as4:fu 53 Fh:=prX aO [] [] bC func53
def BQ:Rg:=λf h=>apc 106 h λa b=>f 0 λc=>bZ 106 2 16 a c b λd i=>a! (ss 2 d f) i
def yC:Rg:=aC Au (aC (aC Ar (tT 4 (aC Au b!) a!)) (aC BQ b!))
def yI:Fun:=c_ [0,2,4] f100.ntmps [.tmp 2] yC
def aef:=fE1 yI rfl
def alA:fu 100 yI:=prX aO [] [] bC func100
def BP:Rg:=λf h=>apc 9 h λa b=>f 0 λc=>bZ 9 1 16 a c b λd i=>a! (ss 2 d f) i
def yB:Rg:=aC Au (aC (aC Ar (tT 4 (aC Au b!) a!)) (aC BP b!))
def rq:Fun:=c_ [0,2,4] f81.ntmps [.tmp 2] yB
def aee:=fE1 rq rfl
def VD:fu 81 rq:=prX aO [] [] bC func81
def DR:Rg:=λf h=>f 0 λa=>aZ 2 a h λb c=>aJ .lss .none b (Y U 2) c λd i=>a! (ss 8 d f) i
def RI:=rM 2 0
def RH:=rC 3 (Y U 1)
def DN:Rg:=λf h=>f 3 λa=>f 0 λb=>aZ 2 b h λc d=>aJ .lss .none a c d λi j=>a! (ss 13 i f) j
def RF:Rg:=λf h=>f 0 λa=>f 3 λb=>bD 1 a b (aK 0 h) λc _=>aG c (aK 0 h) λd _=>f 0 λi=>f 3 λj=>aJ .sub .none j (Y U 1) (aK 0 h) λm _=>bD 1 i m (aK 0 h) λn _=>aG n (aK 0 h) λo _=>aJ .eql .none d o (aK 0 h) λp _=>a! (ss 25 p f) (aK 0 h)
def RG:=r1 3 3 λa h=>aJ .add .none a (Y U 1) h
def aFW:Rg:=zz
def DZ:Rg:=aC (aC DN (tT 13 a! (Out.ex 0))) (aC (bI 1 (aC RF (tT 25 zz a!))) RG)
def AO:Rg:=aC Au (aC (aC DR (tT 8 (aC RI b!) a!)) (aC (aC RH (bI 0 (dI DZ lf))) (aC RI b!)))
def pI:Fun:=c_ [0,2,3,4,5,8,13,25,32,44] f88.ntmps [.tmp 2] AO
def PE:=fE1 pI rfl
def WX:fu 88 pI:=prX aO [7,8,9,11,12,13,10,14,15] [(6,[0,0,3,7,0,0,32,112,240,511],fK [0,16,32,51,64,80,96,112,131,144])] bC func88
def Ph:Rg:=aC Au (aC (aC DR (tT 8 (aC RI b!) a!)) zz)
def uX:Fun:=c_ [0,2,3,4,5,8,13,25,32,44] f83.ntmps [.tmp 2] Ph
def ZA:=fE1 uX rfl
def agL:fu 83 uX:=prX aO [3,4,6,7,8,9,11,12,13,10,14,15,5,16] [] bC func83
def ai4:Rg:=λf h=>f 0 λa=>eU 55 a h λb c=>a! (ss 3 (K false) (ss 2 b f)) c
def ai3:Rg:=λf h=>f 2 λa=>aF 0 a h λb c=>aG b c λd i=>f 1 λj=>aG j i λm n=>aJ .eql .none d m n λo p=>a! (ss 3 o f) p
def ase:Rg:=aC ai4 (aC ai3 b!)
def Py:Fun:=c_ [0,1,2,3] f169.ntmps [.tmp 3] ase
def axz:=fE2 Py rfl
def aFo:fu 169 Py:=prX aO [] [] bC func169
def PG:Fun:=c_ [0,1,2,3] f208.ntmps [.tmp 3] ase
def axD:=fE2 PG rfl
def aFu:fu 208 PG:=prX aO [] [] bC func208
def Pq:Fun:=c_ [0,1,2,3] f290.ntmps [.tmp 3] ase
def axs:=fE2 Pq rfl
def aFk:fu 290 Pq:=prX aO [] [] bC func290
def y8:Fun:=c_ [0,1,2,3] f301.ntmps [.tmp 3] ase
def alD:=fE2 y8 rfl
def as2:fu 301 y8:=prX aO [] [] bC func301
def kC:FuncId->Option Fun:=nO [(169,Py),(208,PG),(290,Pq),(301,y8)]
def KX:Rg:=λf h=>f 0 λa=>aZ 2 a h λb c=>a! (ss 8 (Y U 0) (ss 7 b f)) c
def KW:=r2 9 8 7 λa b h=>aJ .lss .none a b h
def KU:=rM 5 8
def KT:Rg:=λf h=>f 1 λa=>f 0 λb=>f 5 λc=>bD 6 b c h λd i=>cO 6 d i λj m=>dn kC a [j] m λn o=>a! (ss 16 n f) o
def KR:=rM 4 5
def KQ:=r1 8 8 λa h=>aJ .add .none a (Y U 1) h
def KP:=rC 4 (Y U (-1))
def Lu:Rg:=aC KW (aC (tT 9 a! (Out.ex 0)) (aC (bI 1 (aC KU (aC KT (tT 16 (aC KR b!) a!)))) KQ))
def DY:Rg:=aC awX (aC (aC KX (bI 0 (dI Lu lf))) (aC KP b!))
def kD:Fun:=c_ [0,1,4,5,7,8,9,16] f168.ntmps [.tmp 4] DY
def abH:=fE2 kD rfl
def vX:fu 168 kD:=prX aO [] [] (aU aFo (aU aFu (aU aFk (aU as2 bC)))) func168
def anD:Rg:=λf h=>f 1 λa=>eU 3 a h λb c=>a! (ss 4 (Y U 0) (ss 3 b f)) c
def anC:Rg:=λf h=>f 0 λa=>aS a h λb c=>aF 10 b c λd i=>aG d i λj m=>f 3 λn=>dZ (.func 169) [] [n] m λo p=>kD [j,o] p λq r=>a! (ss 4 q f) r
def aw1:Rg:=aC anD (aC anC b!)
def FN:Fun:=c_ [0,1,3,4] f89.ntmps [.tmp 4] aw1
def ayT:=fE2 FN rfl
def abl:fu 89 FN:=prX aO [] [] (aU vX bC) func89
def afk:=rC 4 (K false)
def afj:Rg:=λf h=>f 0 λa=>f 1 λb=>FN [a,b] (aK 0 h) λc d=>f 0 λi=>aS i d λj _=>aF 10 j d λm _=>aG m d λn _=>chk (λh=>aG m h) n ( bD 6 n c d λo _=>aF 4 o d λp _=>aG p d λq _=>f 0 λr=>aS r d λs _=>aF 0 s d λt _=>aF 5 t d λu _=>aG u d λv _=>chk (λh=>aG u h) v ( aJ .gtr .none q v d λw _=>a! (ss 4 w f) d) 1 [(aK 0 h)]) 1 [(aK 0 h)]
def aob:Rg:=aC afk (aC afj b!)
def JZ:Fun:=c_ [0,1,4] f47.ntmps [.tmp 4] aob
def as7:=fE2 JZ rfl
def aDf:fu 47 JZ:=prX aO [] [(1,[0,1,3,7,0,0,48,127,255,511,0,1024,3072,7168,15360,32767,65535],fK [64,80,98,0,16,32,52,112,128,147,160,176,192,208,228,240,256])] (aU abl bC) func47
def YU:=rC 3 (K false)
def YT:Rg:=λf h=>f 1 λa=>aG a h λb c=>f 0 λd=>FN [b,d] c λi j=>aJ .lss .none i (Y U 0) j λm n=>a! (ss 3 m f) n
def agB:Rg:=aC YU (aC YT b!)
def CG:Fun:=c_ [0,1,3] f102.ntmps [.tmp 3] agB
def aoG:=fE2 CG rfl
def axj:fu 102 CG:=prX aO [] [] (aU abl bC) func102
def ql:FuncId->Option Fun:=nO [(47,JZ),(102,CG)]
def KI:Rg:=λf h=>f 1 λa=>f 0 λb=>f 5 λc=>bD 1 b c h λd i=>aG d i λj m=>dn ql a [j] m λn o=>a! (ss 16 n f) o
def Ls:Rg:=aC KW (aC (tT 9 a! (Out.ex 0)) (aC (bI 1 (aC KU (aC KI (tT 16 (aC KR b!) a!)))) KQ))
def DX:Rg:=aC awX (aC (aC KX (bI 0 (dI Ls lf))) (aC KP b!))
def vZ:Fun:=c_ [0,1,4,5,7,8,9,16] f103.ntmps [.tmp 4] DX
def abG:=fE2 vZ rfl
def ahX:fu 103 vZ:=prX aO [] [] (aU aDf (aU axj bC)) func103
def ED:Rg:=λf h=>f 0 λa=>f 1 λb=>vZ [a,b] h λc d=>aJ .geq .none c (Y U 0) d λi j=>a! (ss 4 i f) j
def JL:Rg:=aC afk (aC ED b!)
def jb:Fun:=c_ [0,1,4] f46.ntmps [.tmp 4] JL
def VZ:=fE2 jb rfl
def JR:fu 46 jb:=prX aO [] [] (aU ahX bC) func46
def EG:Rg:=λf h=>f 0 λa=>f 1 λb=>kD [a,b] h λc d=>aJ .geq .none c (Y U 0) d λi j=>a! (ss 4 i f) j
def JM:Rg:=aC afk (aC EG b!)
def mD:Fun:=c_ [0,1,4] f190.ntmps [.tmp 4] JM
def V5:=fE2 mD rfl
def abp:fu 190 mD:=prX aO [] [] (aU vX bC) func190
def WA:Rg:=λf h=>f 0 λa=>eU 40 a h λb c=>a! (ss 3 (K false) (ss 2 b f)) c
def Wy:Rg:=λf h=>f 2 λa=>aF 1 a h λb c=>aG b c λd i=>f 1 λj=>aF 1 j i λm n=>aG m n λo p=>aJ .eql .none d o p λq r=>a! (ss 3 q f) r
def adO:Rg:=aC WA (aC Wy b!)
def y9:Fun:=c_ [0,1,2,3] f52.ntmps [.tmp 3] adO
def alE:=fE2 y9 rfl
def as3:fu 52 y9:=prX aO [] [] bC func52
def aod:Rg:=aC WA (aC ai3 b!)
def J4:Fun:=c_ [0,1,2,3] f77.ntmps [.tmp 3] aod
def as9:=fE2 J4 rfl
def aDg:fu 77 J4:=prX aO [] [] bC func77
def wR:Fun:=c_ [0,1,2,3] f222.ntmps [.tmp 3] aod
def ah1:=fE2 wR rfl
def aqx:fu 222 wR:=prX aO [] [] bC func222
def kV:FuncId->Option Fun:=nO [(52,y9),(77,J4),(222,wR)]
def Je:Rg:=λf h=>f 1 λa=>f 0 λb=>f 5 λc=>bD 8 b c h λd i=>cO 8 d i λj m=>dn kV a [j] m λn o=>a! (ss 16 n f) o
def JU:Rg:=aC KW (aC (tT 9 a! (Out.ex 0)) (aC (bI 1 (aC KU (aC Je (tT 16 (aC KR b!) a!)))) KQ))
def BX:Rg:=aC awX (aC (aC KX (bI 0 (dI JU lf))) (aC KP b!))
def kW:Fun:=c_ [0,1,4,5,7,8,9,16] f76.ntmps [.tmp 4] BX
def Zy:=fE2 kW rfl
def BZ:fu 76 kW:=prX aO [] [] (aU as3 (aU aDg (aU aqx bC))) func76
def Dv:Rg:=λf h=>f 0 λa=>f 1 λb=>kW [a,b] h λc d=>aJ .geq .none c (Y U 0) d λi j=>a! (ss 4 i f) j
def Hr:Rg:=aC afk (aC Dv b!)
def pG:Fun:=c_ [0,1,4] f51.ntmps [.tmp 4] Hr
def VJ:=fE2 pG rfl
def Zq:fu 51 pG:=prX aO [] [] (aU BZ bC) func51
def afX:Rg:=λf h=>f 0 λa=>xH [a] h λb c=>ifB b (aZ 1 a c λd i=>aJ .leq .none d (Y U 64) i λj m=>ifB j (uY [a] m λn o=>aJ .eql .none n a o λp q=>a! (ss 2 p f) q) (a! (ss 2 (K false) f) m)) (a! (ss 2 (K false) f) c)
def aoh:Rg:=aC aiG (aC afX b!)
def Tn:Fun:=c_ [0,2] f80.ntmps [.tmp 2] aoh
def atg:=fE1 Tn rfl
def aDn:fu 80 Tn:=prX aO [] [] (aU asv (aU Zr bC)) func80
def afZ:Rg:=λf h=>f 0 λa=>Tn [a] h λb c=>oUn .not b c λd i=>a! (ss 2 d f) i
def aoi:Rg:=aC aiG (aC afZ b!)
def Tq:Fun:=c_ [0,2] f79.ntmps [.tmp 2] aoi
def ath:=fE1 Tq rfl
def aDo:fu 79 Tq:=prX aO [] [] (aU aDn bC) func79
def qx:FuncId->Option Fun:=nO [(79,Tq)]
def Ef:Rg:=λf h=>f 1 λa=>f 0 λb=>f 5 λc=>bD 1 b c h λd i=>aG d i λj m=>dn qx a [j] m λn o=>a! (ss 16 n f) o
def EL:Rg:=aC KW (aC (tT 9 a! (Out.ex 0)) (aC (bI 1 (aC KU (aC Ef (tT 16 (aC KR b!) a!)))) KQ))
def yx:Rg:=aC awX (aC (aC KX (bI 0 (dI EL lf))) (aC KP b!))
def qA:Fun:=c_ [0,1,4,5,7,8,9,16] f163.ntmps [.tmp 4] yx
def VW:=fE2 qA rfl
def abm:fu 163 qA:=prX aO [] [] (aU aDo bC) func163
def Ak:Rg:=λf h=>f 0 λa=>f 1 λb=>qA [a,b] h λc d=>aJ .geq .none c (Y U 0) d λi j=>a! (ss 4 i f) j
def Dz:Rg:=aC afk (aC Ak b!)
def nV:Fun:=c_ [0,1,4] f78.ntmps [.tmp 4] Dz
def Rh:=fE2 nV rfl
def VT:fu 78 nV:=prX aO [] [] (aU abm bC) func78
def O0:Rg:=λf h=>f 1 λa=>eU 106 a h λb c=>a! (ss 4 (Y U 0) (ss 3 b f)) c
def OW:Rg:=λf h=>f 3 λa=>cO 2 a (aK 0 h) λb _=>f 0 λc=>f 5 λd=>bD 2 c d (aK 0 h) λi _=>cO 2 i (aK 0 h) λj _=>ahj .eql [((.int U),0),((.int U),1)] b j (aK 0 h) λm _=>a! (ss 16 m f) (aK 0 h)
def Po:Rg:=aC KW (aC (tT 9 a! (Out.ex 0)) (aC (bI 1 (aC KU (aC OW (tT 16 (aC KR b!) a!)))) KQ))
def FM:Rg:=aC O0 (aC (aC KX (bI 0 (dI Po lf))) (aC KP b!))
def yH:Fun:=c_ [0,1,3,4,5,7,8,9,16] f324.ntmps [.tmp 4] FM
def aed:=fE2 yH rfl
def alz:fu 324 yH:=prX aO [] [(4,[0,0,0,6,14,31],fK [3,16,32,48,67,80])] bC func324
def GZ:Rg:=λf h=>f 1 λa=>eU 106 a h λb c=>a! (ss 4 (K false) (ss 3 b f)) c
def GY:Rg:=λf h=>f 0 λa=>f 3 λb=>cO 2 b h λc d=>yH [a,c] d λi j=>aJ .geq .none i (Y U 0) j λm n=>a! (ss 4 m f) n
def Lm:Rg:=aC GZ (aC GY b!)
def kJ:Fun:=c_ [0,1,3,4] f223.ntmps [.tmp 4] Lm
def XO:=fE2 kJ rfl
def aeb:fu 223 kJ:=prX aO [] [] (aU alz bC) func223
def OJ:Rg:=λf h=>f 1 λa=>f 0 λb=>f 5 λc=>bD 1 b c h λd i=>aG d i λj m=>aJ .eql .none a j m λn o=>a! (ss 16 n f) o
def Pj:Rg:=aC KW (aC (tT 9 a! (Out.ex 0)) (aC (bI 1 (aC KU (aC OJ (tT 16 (aC KR b!) a!)))) KQ))
def FK:Rg:=aC awX (aC (aC KX (bI 0 (dI Pj lf))) (aC KP b!))
def yG:Fun:=c_ [0,1,4,5,7,8,9,16] f85.ntmps [.tmp 4] FK
def aec:=fE2 yG rfl
def aly:fu 85 yG:=prX aO [] [] bC func85
def GV:Rg:=λf h=>f 0 λa=>f 1 λb=>yG [a,b] h λc d=>aJ .geq .none c (Y U 0) d λi j=>a! (ss 4 i f) j
def Ll:Rg:=aC afk (aC GV b!)
def rW:Fun:=c_ [0,1,4] f36.ntmps [.tmp 4] Ll
def XM:=fE2 rW rfl
def aea:fu 36 rW:=prX aO [] [] (aU aly bC) func36
def QM:Rg:=λf h=>f 1 λa=>eU 200 a h λb c=>a! (ss 4 (Y U 0) (ss 3 b f)) c
def QL:Rg:=λf h=>f 0 λa=>aS a h λb c=>aF 4 b c λd i=>aG d i λj m=>a! (ss 8 j f) m
def adC:Rg:=λf h=>f 3 λa=>aF 1 a h λb c=>aG b c λd i=>a! (ss 4 d f) i
def adB:Rg:=λf h=>f 3 λa=>aF 0 a h λb c=>aG b c λd i=>a! (ss 4 d f) i
def XB:Rg:=aC QM (aC (aC QL (tT 8 (aC adC b!) a!)) (aC adB b!))
def Ov:Fun:=c_ [0,1,3,4,8] f141.ntmps [.tmp 4] XB
def aqP:=fE2 Ov rfl
def ayL:fu 141 Ov:=prX aO [] [] bC func141
def aaL:Rg:=λf h=>f 0 λa=>eU 98 a h λb c=>a! (ss 3 (K false) (ss 2 b f)) c
def aaK:Rg:=λf h=>f 1 λa=>aG a h λb c=>f 2 λd=>aF 0 d c λi j=>aG i j λm n=>aJ .geq .none b m n λo p=>ifB o (aG a p λq r=>aF 1 d r λs t=>aG s t λu v=>aJ .leq .none q u v λw x=>a! (ss 3 w f) x) (a! (ss 3 (K false) f) p)
def als:Rg:=aC aaL (aC aaK b!)
def VI:Fun:=c_ [0,1,2,3] f329.ntmps [.tmp 3] als
def ayU:=fE2 VI rfl
def aHP:fu 329 VI:=prX aO [] [] bC func329
def Jw(fr:F)(h:Hp):Out:=
 fr 1 λa=>aF 1 a h λb c=>
 aG b c λd i=>
 fr 2 λj=>aF 0 j i λm n=>
 aG m n λo p=>
 aJ .geq .none d o p λq r=>
 ifB q (aF 1 a r λs t=>
 aG s t λu v=>
 aF 1 j v λw x=>
 aG w x λy z=>
 aJ .leq .none u y z λe f=>
 a! (ss 3 e fr) f) (a! (ss 3 (K false) fr) r)
def QZ:Rg:=aC aaL (aC Jw b!)
def Fj:Fun:=c_ [0,1,2,3] f407.ntmps [.tmp 3] QZ
def alH:=fE2 Fj rfl
def as5:fu 407 Fj:=prX aO [] [] bC func407
def rJ:FuncId->Option Fun:=nO [(329,VI),(407,Fj)]
def Gu:Rg:=λf h=>f 1 λa=>f 0 λb=>f 5 λc=>bD 2 b c h λd i=>cO 2 d i λj m=>dn rJ a [j] m λn o=>a! (ss 16 n f) o
def Hu:Rg:=aC KW (aC (tT 9 a! (Out.ex 0)) (aC (bI 1 (aC KU (aC Gu (tT 16 (aC KR b!) a!)))) KQ))
def zJ:Rg:=aC awX (aC (aC KX (bI 0 (dI Hu lf))) (aC KP b!))
def rQ:Fun:=c_ [0,1,4,5,7,8,9,16] f398.ntmps [.tmp 4] zJ
def XK:=fE2 rQ rfl
def ad8:fu 398 rQ:=prX aO [] [] (aU aHP (aU as5 bC)) func398
def BL:Rg:=λf h=>f 0 λa=>f 1 λb=>rQ [a,b] h λc d=>aJ .geq .none c (Y U 0) d λi j=>a! (ss 4 i f) j
def EI:Rg:=aC afk (aC BL b!)
def kM:Fun:=c_ [0,1,4] f328.ntmps [.tmp 4] EI
def SY:=fE2 kM rfl
def EK:fu 328 kM:=prX aO [] [] (aU ad8 bC) func328
def arN:Rg:=λf h=>f 1 λa=>eU 3 a h λb c=>a! (ss 4 (K false) (ss 3 b f)) c
def arM:Rg:=λf h=>f 0 λa=>f 3 λb=>dZ (.func 329) [] [b] h λc d=>kM [a,c] d λi j=>a! (ss 4 i f) j
def aBJ:Rg:=aC arN (aC arM b!)
def ahL:Fun:=c_ [0,1,3,4] f226.ntmps [.tmp 4] aBJ
def aDx:=fE2 ahL rfl
def aNl:fu 226 ahL:=prX aO [] [] (aU EK bC) func226
def IJ:Rg:=λf h=>f 0 λa=>eU 250 a h λb c=>a! (ss 3 (K false) (ss 2 b f)) c
def II(fr:F)(h:Hp):Out:=
 fr 2 λa=>aF 0 a h λb c=>
 aG b c λd i=>
 fr 1 λj=>aF 0 j i λm n=>
 aG m n λo p=>
 aJ .eql .none d o p λq r=>
 ifB q (aF 1 a r λs t=>
 aF 0 s t λu v=>
 aG u v λw x=>
 aF 1 j x λy z=>
 aG y z λe f=>
 aJ .eql .none w e f λg k=>
 a! (ss 3 g fr) k) (a! (ss 3 (K false) fr) r)
def QY:Rg:=aC IJ (aC II b!)
def yZ:Fun:=c_ [0,1,2,3] f178.ntmps [.tmp 3] QY
def alC:=fE2 yZ rfl
def as1:fu 178 yZ:=prX aO [] [] bC func178
def zH:FuncId->Option Fun:=nO [(178,yZ)]
def Gj:Rg:=λf h=>f 1 λa=>f 0 λb=>f 5 λc=>bD 9 b c h λd i=>cO 9 d i λj m=>dn zH a [j] m λn o=>a! (ss 16 n f) o
def Ht:Rg:=aC KW (aC (tT 9 a! (Out.ex 0)) (aC (bI 1 (aC KU (aC Gj (tT 16 (aC KR b!) a!)))) KQ))
def zI:Rg:=aC awX (aC (aC KX (bI 0 (dI Ht lf))) (aC KP b!))
def oh:Fun:=c_ [0,1,4,5,7,8,9,16] f177.ntmps [.tmp 4] zI
def XJ:=fE2 oh rfl
def ad7:fu 177 oh:=prX aO [] [] (aU as1 bC) func177
def RD:=rC 6 .aQ
def Rz:Rg:=λf h=>f 0 λa=>f 1 λb=>f 2 λc=>aZ 2 a h λd i=>eP 8 a (some b) (some c) (some d) i λj m=>a! f m
def Ry:=r2 16 1 2 λa b h=>aJ .eql .none a b h
def Rx:=r1 7 0 λa h=>aZ 2 a h
def Rw:Rg:=λf h=>f 0 λa=>f 1 λb=>eP 8 a none (some b) none (aK 0 h) λc _=>f 0 λd=>f 2 λi=>eP 8 d (some i) none none (aK 0 h) λj _=>bZ 40 8 104 c j (aK 0 h) λm n=>a! (ss 0 m f) n
def Ro:Rg:=λf h=>f 0 λa=>aZ 2 a h λb c=>f 7 λd=>FY 8 a b d c λi j=>XY [Y U 0,Y U 0,H [],Y U 0,.aQ,.aQ,Y U 0,Y U 0] i j λ_ m=>a! f m
def Rn:=rM 6 0
def WU:Rg:=aC RD (aC Rz (aC (aC Ry (tT 16 zz a!)) (aC Rx (aC Rw (aC Ro (aC Rn b!))))))
def AQ:Fun:=c_ [0,1,2,6,7,16] f50.ntmps [.tmp 6] WU
def agT:=fE3 AQ rfl
def aos:fu 50 AQ:=prX aO [3] [(5,[0,0,3,0,0,24,63,127],fK [0,16,32,48,64,80,98,112])] bC func50
def Jp:Rg:=λf h=>f 0 λa=>f 1 λb=>f 2 λc=>aZ 2 a h λd i=>eP 3 a (some b) (some c) (some d) i λj m=>a! f m
def Jl:Rg:=λf h=>f 0 λa=>f 1 λb=>eP 3 a none (some b) none (aK 0 h) λc _=>f 0 λd=>f 2 λi=>eP 3 d (some i) none none (aK 0 h) λj _=>bZ 248 3 24 c j (aK 0 h) λm n=>a! (ss 0 m f) n
def Jk:Rg:=λf h=>f 0 λa=>aZ 2 a h λb c=>f 7 λd=>FY 3 a b d c λi j=>XY [Y U 0,Y U 0,.cZ] i j λ_ m=>a! f m
def Pg:Rg:=aC RD (aC Jp (aC (aC Ry (tT 16 zz a!)) (aC Rx (aC Jl (aC Jk (aC Rn b!))))))
def kX:Fun:=c_ [0,1,2,6,7,16] f179.ntmps [.tmp 6] Pg
def Zz:=fE3 kX rfl
def agK:fu 179 kX:=prX aO [3] [(5,[0,0,3,0,0,24,63,127],fK [0,16,32,48,64,80,98,112])] bC func179
def afV:=r1 4 0 λa h=>aJ .geq .none a (Y .u64 4294967296) h
def afU:=r1 8 0 λa h=>aJ .geq .none a (Y .u64 65536) h
def afT:=r1 14 0 λa h=>aJ .geq .none a (Y .u64 256) h
def adl:Rg:=λf h=>f 2 λa=>f 0 λb=>jk .u8 b h λc d=>mF (H [0,1,2,2,3,3,3,3,4,4,4,4,4,4,4,4,5,5,5,5,5,5,5,5,5,5,5,5,5,5,5,5,6,6,6,6,6,6,6,6,6,6,6,6,6,6,6,6,6,6,6,6,6,6,6,6,6,6,6,6,6,6,6,6,7,7,7,7,7,7,7,7,7,7,7,7,7,7,7,7,7,7,7,7,7,7,7,7,7,7,7,7,7,7,7,7,7,7,7,7,7,7,7,7,7,7,7,7,7,7,7,7,7,7,7,7,7,7,7,7,7,7,7,7,7,7,7,7,8,8,8,8,8,8,8,8,8,8,8,8,8,8,8,8,8,8,8,8,8,8,8,8,8,8,8,8,8,8,8,8,8,8,8,8,8,8,8,8,8,8,8,8,8,8,8,8,8,8,8,8,8,8,8,8,8,8,8,8,8,8,8,8,8,8,8,8,8,8,8,8,8,8,8,8,8,8,8,8,8,8,8,8,8,8,8,8,8,8,8,8,8,8,8,8,8,8,8,8,8,8,8,8,8,8,8,8,8,8,8,8,8,8,8,8,8,8,8,8,8,8,8,8,8,8,8,8]) c d λi j=>jk U i j λm n=>aJ .add .none a m n λo p=>a! (ss 2 o f) p
def abh:Rg:=aC ajP (aC (aC afV (tT 4 zz a!)) (aC (aC afU (tT 8 zz a!)) (aC (aC afT (tT 14 zz a!)) (aC adl b!))))
def Ti:Fun:=c_ [0,2,4,8,14] f269.ntmps [.tmp 2] abh
def atf:=fE1 Ti rfl
def aDl:fu 269 Ti:=prX aO [2,3,5,6,8,9] [] bC func269
def anG:=r1 2 0 λa h=>Ti [a] h
def aw3:Rg:=aC ajP (aC (aT (.const (.bool false)) zz a!) (aC anG b!))
def FO:Fun:=c_ [0,2] f165.ntmps [.tmp 2] aw3
def ayW:=fE1 FO rfl
def abq:fu 165 FO:=prX aO [1] [] (aU aDl bC) func165
def JI:=r1 2 0 λa h=>aJ .neq .none a a h
def Q5:Rg:=aC aiG (aC JI b!)
def nM:Fun:=c_ [0,2] f364.ntmps [.tmp 2] Q5
def VO:=fE1 nM rfl
def adR:fu 364 nM:=prX aO [] [] bC func364
def Zg:Rg:=λf h=>f 0 λa=>nM [a] h λb c=>ifB b (f 1 λd=>nM [d] c λi j=>oUn .not i j λm n=>ifB m (a! (ss 4 (K true) f) n) (aJ .lss .none a d n λo p=>a! (ss 4 o f) p)) (f 1 λd=>aJ .lss .none a d c λo p=>a! (ss 4 o f) p)
def agE:Rg:=aC afk (aC Zg b!)
def Ko:Fun:=c_ [0,1,4] f276.ntmps [.tmp 4] agE
def aoL:=fE2 Ko rfl
def axp:fu 276 Ko:=prX aO [] [] (aU adR bC) func276
def jA:=r1 6 1 λa h=>aJ .add .none a (Y U 1) h
def iF:=r2 12 6 2 λa b h=>aJ .lss .none a b h
def ug:=rM 7 6
def jy:Rg:=λf h=>f 7 λa=>f 1 λb=>aJ .gtr .none a b (aK 0 h) λc _=>ifB c (f 0 λd=>f 7 λi=>bD 1 d i (aK 0 h) λj _=>aG j (aK 0 h) λm _=>f 0 λn=>f 7 λo=>aJ .sub .none o (Y U 1) (aK 0 h) λp _=>bD 1 n p (aK 0 h) λq _=>aG q (aK 0 h) λr _=>Ko [m,r] (aK 0 h) λs t=>a! (ss 30 s f) t) (a! (ss 30 (K false) f) (aK 0 h))
def tZ:Rg:=λf h=>f 0 λa=>f 7 λb=>f 0 λc=>f 7 λd=>aJ .sub .none d (Y U 1) (aK 0 h) λi _=>bD 1 c i (aK 0 h) λj _=>aG j (aK 0 h) λm _=>f 0 λn=>f 7 λo=>bD 1 n o (aK 0 h) λp _=>aG p (aK 0 h) λq _=>bD 1 a b (aK 0 h) λr _=>aV 1 r m (aK 0 h) λ_ s=>f 0 λt=>f 7 λu=>aJ .sub .none u (Y U 1) s λv _=>bD 1 t v s λw _=>aV 1 w q s λ_ x=>a! f x
def uf:=r1 7 7 λa h=>aJ .sub .none a (Y U 1) h
def jB:Rg:=aC (aC jy (tT 30 a! (Out.ex 2))) (aC (bI 3 tZ) uf)
def iG:Rg:=aC (aC iF (tT 12 a! (Out.ex 0))) (aC (bI 1 (aC ug (bI 2 (dI jB lf)))) aiD)
def gX:Rg:=aC jA (bI 0 (dI iG lf))
def gY:Fun:=c_ [0,1,2,6,7,12,30] f270.ntmps [] gX
def sJ:=fE3 gY rfl
def NP:fu 270 gY:=prX aO [] [(4,[0,0,3,7,15,15,63,127,15,15,527,1807,3855,8191,16383],fK [0,16,32,48,64,80,96,115,128,144,160,176,195,210,224]),(6,[0,0,0,0,8,0,0,64,224,480,0,0,3072,7168,16355,32739,65535,131071],fK [0,16,80,96,112,128,147,160,176,192,211,224,242,32,48,64,256,274])] (aU axp bC) func270
def rD:Fun:=c_ [0,2] f360.ntmps [.tmp 2] Q5
def aeg:=fE1 rD rfl
def alB:fu 360 rD:=prX aO [] [] bC func360
def RN:Rg:=λf h=>f 0 λa=>rD [a] h λb c=>ifB b (f 1 λd=>rD [d] c λi j=>oUn .not i j λm n=>ifB m (a! (ss 4 (K true) f) n) (aJ .lss .none a d n λo p=>a! (ss 4 o f) p)) (f 1 λd=>aJ .lss .none a d c λo p=>a! (ss 4 o f) p)
def WV:Rg:=aC afk (aC RN b!)
def AV:Fun:=c_ [0,1,4] f265.ntmps [.tmp 4] WV
def agV:=fE2 AV rfl
def aou:fu 265 AV:=prX aO [] [] (aU alB bC) func265
def iQ:Rg:=λf h=>f 7 λa=>f 1 λb=>aJ .gtr .none a b (aK 0 h) λc _=>ifB c (f 0 λd=>f 7 λi=>bD 1 d i (aK 0 h) λj _=>aG j (aK 0 h) λm _=>f 0 λn=>f 7 λo=>aJ .sub .none o (Y U 1) (aK 0 h) λp _=>bD 1 n p (aK 0 h) λq _=>aG q (aK 0 h) λr _=>AV [m,r] (aK 0 h) λs t=>a! (ss 30 s f) t) (a! (ss 30 (K false) f) (aK 0 h))
def iT:Rg:=aC (aC iQ (tT 30 a! (Out.ex 2))) (aC (bI 3 tZ) uf)
def gW:Rg:=aC (aC iF (tT 12 a! (Out.ex 0))) (aC (bI 1 (aC ug (bI 2 (dI iT lf)))) aiD)
def fO:Rg:=aC jA (bI 0 (dI gW lf))
def fP:Fun:=c_ [0,1,2,6,7,12,30] f259.ntmps [] fO
def qo:=fE3 fP rfl
def H7:fu 259 fP:=prX aO [] [(4,[0,0,3,7,15,15,63,127,15,15,527,1807,3855,8191,16383],fK [0,16,32,48,64,80,96,115,128,144,160,176,195,210,224]),(6,[0,0,0,0,8,0,0,64,224,480,0,0,3072,7168,16355,32739,65535,131071],fK [0,16,80,96,112,128,147,160,176,192,211,224,242,32,48,64,256,274])] (aU aou bC) func259
def BK:=rC 8 (K true)
def BJ:=rC 9 (K true)
def BI:=r2 10 2 1 λa b h=>aJ .sub .none a b h
def BH:=r1 23 10 λa h=>aJ .leq .none a (Y U 12) h
def BG:Rg:=λf h=>f 0 λa=>f 1 λb=>f 2 λc=>gY [a,b,c] h λd i=>a! f i
def CB:Rg:=bI 1 (aC BI (aC (aC BH (tT 23 (aC BG b!) a!)) zz))
def vN:Rg:=aC BK (aC BJ (bI 0 (dI CB lf)))
def oJ:Fun:=c_ [0,1,2,3,8,9,10,11,12,13,14,15,16,17,18,23,29,35,50,68,72,87,113] f167.ntmps [] vN
def SX:=fE4 oJ rfl
def XG:fu 167 oJ:=prX aO [5,6,7,8,9,10,11,12,13,14,15,16,17,18,19,20,21,22,23,24,25,26,27,28,29,30] [] (aU NP bC) func167
def wV:Rg:=λf h=>f 0 λa=>f 1 λb=>f 2 λc=>fP [a,b,c] h λd i=>a! f i
def xG:Rg:=bI 1 (aC BI (aC (aC BH (tT 23 (aC wV b!) a!)) zz))
def qy:Rg:=aC BK (aC BJ (bI 0 (dI xG lf)))
def lD:Fun:=c_ [0,1,2,3,8,9,10,11,12,13,14,15,16,17,18,23,29,35,50,68,72,87,113] f164.ntmps [] qy
def NS:=fE4 lD rfl
def SQ:fu 164 lD:=prX aO [5,6,7,8,9,10,11,12,13,14,15,16,17,18,19,20,21,22,23,24,25,26,27,28,29,30] [] (aU H7 bC) func164
def Y3:=r1 2 0 λa h=>aZ 2 a h
def Y2:Rg:=λf h=>f 0 λa=>f 2 λb=>jk .u64 b h λc d=>FO [c] d λi j=>oJ [a,Y U 0,b,i] j λm n=>a! f n
def agC:Rg:=aC Y3 Y2
def o7:Fun:=c_ [0,2] f87.ntmps [] agC
def aoI:=fE1 o7 rfl
def agG:fu 87 o7:=prX aO [] [] (aU abq (aU XG bC)) func87
def Rk:Rg:=λf h=>f 0 λa=>f 2 λb=>jk .u64 b h λc d=>FO [c] d λi j=>lD [a,Y U 0,b,i] j λm n=>a! f n
def WT:Rg:=aC Y3 Rk
def lZ:Fun:=c_ [0,2] f82.ntmps [] WT
def agS:=fE1 lZ rfl
def aor:fu 82 lZ:=prX aO [] [] (aU abq (aU SQ bC)) func82
def RX:=r1 5 0 λa h=>nM [a] h
def RV:=r1 6 1 λa h=>nM [a] h
def RU:=rM 11 5
def RS:=rM 13 6
def RQ:=r2 16 0 1 λa b h=>aJ .lss .none a b h
def O8:=r2 19 0 1 λa b h=>aJ .gtr .none a b h
def O7:=rC 4 (Y U 1)
def WW:Rg:=aC awX (aC RX (aC RV (aC (aC RU (tT 11 zz a!)) (aC (aC RS (tT 13 zz a!)) (aC (aC RQ (tT 16 zz a!)) (aC (aC O8 (tT 19 (aC O7 b!) a!)) zz))))))
def pJ:Fun:=c_ [0,1,4,5,6,11,12,13,16,19] f285.ntmps [.tmp 4] WW
def agW:=fE2 pJ rfl
def WY:fu 285 pJ:=prX aO [4,5,6,8,10,13] [] (aU adR bC) func285
def YI:Rg:=λf h=>f 0 λa=>eU 250 a h λb c=>(ss 2 b f) 1 λd=>eU 250 d c λi j=>a! (ss 4 (Y U 0) (ss 3 i (ss 2 b f))) j
def YH:Rg:=λf h=>f 2 λa=>aF 0 a h λb c=>aG b c λd i=>f 3 λj=>aF 0 j i λm n=>aG m n λo p=>pJ [d,o] p λq r=>a! (ss 4 q f) r
def agw:Rg:=aC YI (aC YH b!)
def qZ:Fun:=c_ [0,1,2,3,4] f284.ntmps [.tmp 4] agw
def aoC:=fE2 qZ rfl
def U9:fu 284 qZ:=prX aO [] [] (aU WY bC) func284
def iD:FuncId->Option Fun:=nO [(284,qZ)]
def zV:Rg:=λf h=>a! (ss 11 (Y U 0) (ss 10 (Y U 0) f)) h
def zU:Rg:=λf h=>f 4 λa=>f 0 λb=>f 2 λc=>bD 9 b c (aK 0 h) λd _=>cO 9 d (aK 0 h) λi _=>f 0 λj=>f 1 λm=>bD 9 j m (aK 0 h) λn _=>cO 9 n (aK 0 h) λo _=>dn iD a [i,o] (aK 0 h) λp q=>aJ .lss .none p (Y U 0) q λr _=>a! (ss 22 r f) q
def zT:Rg:=λf h=>f 1 λa=>f 2 λb=>a! (ss 11 b (ss 10 a f)) h
def Dx:Rg:=aC zV (aC (aC zU (tT 22 zz a!)) (aC zT b!))
def iW:Fun:=c_ [0,1,2,3,4,10,11,22] f527.ntmps [.tmp 10,.tmp 11] Dx
def Q7:=fE5 iW rfl
def VP:fu 527 iW:=prX aO [2,3] [(1,[0,0,0,6,14,0,0,96,224,511,1023],fK [0,16,32,48,67,80,96,112,131,146,160])] (aU U9 bC) func527
def Ae:=rC 12 (Y U 0)
def Ad:Rg:=λf h=>f 0 λa=>f 1 λb=>f 2 λc=>f 4 λd=>f 5 λi=>iW [a,b,c,d,i] h λj m=>bJ 0 j m λn o=>bJ 1 j o λp q=>a! (ss 2 p (ss 1 n f)) q
def Ac:Rg:=λf h=>f 0 λa=>f 2 λb=>f 3 λc=>f 4 λd=>f 5 λi=>iW [a,b,c,d,i] h λj m=>bJ 0 j m λn o=>bJ 1 j o λp q=>a! (ss 3 p (ss 2 n f)) q
def zZ:=rM 12 2
def sO:Rg:=aC Ae (aC Ad (aC Ac (aC Ad (aC zZ b!))))
def nS:Fun:=c_ [0,1,2,3,4,5,12] f491.ntmps [.tmp 12] sO
def Q9(a b c d e f:V)(h:Hp):nS [a,b,c,d,e,f] h=bU prog [.tmp 12] (sO (ss 5 f (ss 4 e (ss 3 d (ss 2 c (ss 1 b (ss 0 a T.nil)))))) h):=kR
def VR:fu 491 nS:=prX aO [] [] (aU VP bC) func491
def uI:Rg:=λf h=>a! (ss 9 (Y U 0) (ss 8 (Y U 0) f)) h
def uG:Rg:=λf h=>eY 3 [Y U 0] h λa b=>a! (ss 11 a f) b
def uF:Rg:=λf h=>f 1 λa=>f 10 λb=>aJ .quo .none b (Y U 4) h λc d=>aJ .mul .none c (Y U 1) d λi j=>aJ .add .none a i j λm n=>a! (ss 12 m f) n
def uD:Rg:=λf h=>f 1 λa=>f 10 λb=>aJ .quo .none b (Y U 4) h λc d=>aJ .mul .none c (Y U 2) d λi j=>aJ .add .none a i j λm n=>a! (ss 13 m f) n
def uz:Rg:=λf h=>f 1 λa=>f 10 λb=>aJ .quo .none b (Y U 4) h λc d=>aJ .mul .none c (Y U 3) d λi j=>aJ .add .none a i j λm n=>a! (ss 14 m f) n
def uw:=r1 34 10 λa h=>aJ .geq .none a (Y U 8) h
def uq:=r1 36 10 λa h=>aJ .geq .none a (Y U 50) h
def su:Rg:=λf h=>f 0 λa=>f 12 λb=>f 13 λc=>f 14 λd=>f 3 λi=>f 11 λj=>nS [a,b,c,d,j,i] h λm n=>a! (ss 13 m f) n
def rZ:=r1 55 11 λa h=>aG a h
def rY:=r1 57 55 λa h=>aJ .eql .none a (Y U 0) h
def rX:Rg:=λf h=>f 13 λa=>a! (ss 9 (Y U 1) (ss 8 a f)) h
def wM:Rg:=aC uI (aC BI (aC uG (aC uF (aC uD (aC uz (aC (aC uw (tT 34 (aC (aC uq (tT 36 zz a!)) su) a!)) (aC rZ (bI 0 (aC rY (tT 57 (aC rX b!) zz))))))))))
def jW:Fun:=c_ [0,1,2,3,8,9,10,11,12,13,14,34,36,55,57,60] f430.ntmps [.tmp 8,.tmp 9] wM
def H8:=fE4 jW rfl
def NQ:fu 430 jW:=prX aO [8,9,10,16,17,13] [] (aU VR bC) func430
def jE:FuncId->Option Fun:=nO [(284,qZ)]
def mY:=rC 8 (K false)
def mX:=r1 9 1 λa h=>aJ .add .none a (Y U 1) h
def mW:=rC 10 (Y U 0)
def mV:=r1 16 10 λa h=>aJ .lss .none a (Y U 5) h
def je:Rg:=λf h=>f 9 λa=>f 2 λb=>aJ .lss .none a b (aK 0 h) λc _=>ifB c (f 3 λd=>f 0 λi=>f 9 λj=>bD 9 i j (aK 0 h) λm _=>cO 9 m (aK 0 h) λn _=>f 0 λo=>f 9 λp=>aJ .sub .none p (Y U 1) (aK 0 h) λq _=>bD 9 o q (aK 0 h) λr _=>cO 9 r (aK 0 h) λs _=>dn jE d [n,s] (aK 0 h) λt u=>aJ .lss .none t (Y U 0) u λv _=>oUn .not v u λw _=>a! (ss 36 w f) u) (a! (ss 36 (K false) f) (aK 0 h))
def mP:=r1 9 9 λa h=>aJ .add .none a (Y U 1) h
def mO:=r2 41 9 2 λa b h=>aJ .eql .none a b h
def mQ:=r1 10 10 λa h=>aJ .add .none a (Y U 1) h
def jg:Rg:=aC (aC je (tT 36 a! (Out.ex 2))) (bI 3 mP)
def nJ:Rg:=aC (aC mV (tT 16 a! (Out.ex 0))) (aC (bI 1 (aC (bI 2 (dI jg lf)) (aC (aC mO (tT 41 (aC BK b!) a!)) zz))) mQ)
def jG:Rg:=aC mY (aC mX (aC (aC mW (bI 0 (dI nJ lf))) zz))
def iy:Fun:=c_ [0,1,2,3,8,9,10,11,12,16,36,41,45,65,69,84,104,109,124] f432.ntmps [.tmp 8] jG
def yE:=fE4 iy rfl
def AX:fu 432 iy:=prX aO [9,10,11,12,13,14,16,17,15,18,19,20,22,23,21,24] [(5,[0,0,3,7,15,15,15,111,239,15,15,1039,3599,7695,16383,32767,65535,131071],fK [0,16,32,48,64,80,96,112,131,144,160,176,192,211,226,240,256,272])] (aU U9 bC) func432
def lV:FuncId->Option Fun:=nO [(284,qZ)]
def qP:=r1 8 1 λa h=>aJ .add .none a (Y U 1) h
def kP:=r2 14 8 2 λa b h=>aJ .lss .none a b h
def qO:=rM 9 8
def qN:Rg:=λf h=>f 9 λa=>f 1 λb=>aJ .gtr .none a b (aK 0 h) λc _=>ifB c (f 3 λd=>f 0 λi=>f 9 λj=>bD 9 i j (aK 0 h) λm _=>cO 9 m (aK 0 h) λn _=>f 0 λo=>f 9 λp=>aJ .sub .none p (Y U 1) (aK 0 h) λq _=>bD 9 o q (aK 0 h) λr _=>cO 9 r (aK 0 h) λs _=>dn lV d [n,s] (aK 0 h) λt u=>aJ .lss .none t (Y U 0) u λv _=>a! (ss 34 v f) u) (a! (ss 34 (K false) f) (aK 0 h))
def qX:Rg:=aC (aC qN (tT 34 a! (Out.ex 2))) zz
def kT:Rg:=aC (aC kP (tT 14 a! (Out.ex 0))) (aC (bI 1 (aC qO (bI 2 (dI qX lf)))) KQ)
def lX:Rg:=aC qP (bI 0 (dI kT lf))
def jC:Fun:=c_ [0,1,2,3,8,9,14,34] f427.ntmps [] lX
def EP:=fE4 jC rfl
def JO:fu 427 jC:=prX aO [6,5] [(4,[0,0,3,7,15,15,15,111,239,15,15,1039,3599,7695,16383,32767,65535],fK [0,16,32,48,64,80,96,112,131,144,160,176,192,211,226,240,256])] (aU U9 bC) func427
def yS:=rC 10 (K true)
def yR:=rC 11 (K true)
def pV:=r2 12 2 1 λa b h=>aJ .sub .none a b h
def pU:=r1 25 12 λa h=>aJ .leq .none a (Y U 12) h
def yQ:Rg:=λf h=>f 0 λa=>f 1 λb=>f 2 λc=>f 4 λd=>jC [a,b,c,d] h λi j=>a! f j
def yP:=r1 32 3 λa h=>aJ .eql .none a (Y U 0) h
def yO:=r1 39 10 λa h=>oUn .not a h
def xw:Rg:=λf h=>f 0 λa=>f 1 λb=>f 2 λc=>f 4 λd=>jW [a,b,c,d] h λi j=>bJ 0 i j λm n=>bJ 1 i n λo p=>a! (ss 14 o (ss 13 m f)) p
def xu:=r1 56 14 λa h=>aJ .eql .none a (Y U 2) h
def xq:Rg:=λf h=>f 10 λa=>ifB a (f 11 λb=>ifB b (f 14 λc=>aJ .eql .none c (Y U 1) h λd i=>a! (ss 75 d f) i) (a! (ss 75 (K false) f) h)) (a! (ss 75 (K false) f) h)
def xg:Rg:=λf h=>f 0 λa=>f 1 λb=>f 2 λc=>f 4 λd=>iy [a,b,c,d] h λi j=>a! (ss 80 i f) j
def pY:Rg:=bI 1 (aC pV (aC (aC pU (tT 25 (aC yQ b!) a!)) (aC (aC yP (tT 32 zz a!)) (aC (aC yO (tT 39 zz a!)) (aC xw (aC (aC xu (tT 56 zz a!)) (aC (aC xq (tT 75 (aC xg (tT 80 b! a!)) a!)) zz)))))))
def qV:Rg:=aC yS (aC yR (bI 0 (dI pY lf)))
def l7:Fun:=c_ [0,1,2,3,4,10,11,12,13,14,15,16,17,18,19,20,25,32,39,56,75,80,97,125] f368.ntmps [] qV
def Pz:=fE5 l7 rfl
def VA:fu 368 l7:=prX aO [6,8,9,12,13,14,17,18,19,20,21,22,23,24,25,26,27,28,29,30] [] (aU JO (aU NQ (aU AX bC))) func368
def IY:=r1 4 0 λa h=>aZ 2 a h
def IX:Rg:=λf h=>f 0 λa=>f 4 λb=>jk .u64 b h λc d=>FO [c] d λi j=>f 1 λm=>l7 [a,Y U 0,b,i,m] j λn o=>a! f o
def O9:Rg:=aC IY IX
def uT:Fun:=c_ [0,1,4] f283.ntmps [] O9
def Zu:=fE2 uT rfl
def agH:fu 283 uT:=prX aO [] [] (aU abq (aU VA bC)) func283
def ajn:Rg:=λf h=>a! (ss 3 (Y U 0) (ss 2 .aQ f)) h
def ajm:=r1 6 0 λa h=>nV [a,(.func (.func 79) .nil .nil)] h
def ajl:=r1 4 0 λa h=>rq [a] h
def ajk:Rg:=λf h=>f 4 λa=>lZ [a] h λb c=>a! f c
def ajj:=r1 4 4 λa h=>uX [a] h
def aji:Rg:=λf h=>f 4 λa=>aZ 2 a h λb c=>aJ .gtr .none b (Y U 16) c λd i=>a! (ss 15 d f) i
def ajh:Rg:=λf h=>f 4 λa=>a! (ss 3 (Y U 0) (ss 2 a f)) h
def asi:Rg:=aC ajn (aC (aC ajm (tT 6 zz a!)) (aC ajl (aC ajk (aC ajj (aC (aC aji (tT 15 zz a!)) (aC ajh b!))))))
def Xf:Fun:=c_ [0,2,3,4,6,15] f32.ntmps [.tmp 2,.tmp 3] asi
def axE:=fE1 Xf rfl
def aFv:fu 32 Xf:=prX aO [2,7] [] (aU VT (aU VD (aU aor (aU agL bC)))) func32
def an0:=r1 9 0 λa h=>aJ .eql (.ptr 3) a .cZ h
def anZ:Rg:=λf h=>f 1 λa=>aZ 2 a h λb c=>a! (ss 12 (Y U 0) (ss 11 b (ss 10 a f))) c
def anY:=r2 13 12 11 λa b h=>aJ .lss .none a b h
def aaS:Rg:=λf h=>f 10 λa=>f 12 λb=>bD 4 a b h λc d=>cO 4 c d λi j=>eY 85 [Y U 0,Y U 0,Y U 0,Y U 0] j λm n=>aV 4 m i n λ_ o=>a! (ss 5 m f) o
def aaR:Rg:=λf h=>f 0 λa=>aS a h λb c=>aF 1 b c λd i=>aG d i λj m=>aZ 2 j m λn o=>a! (ss 6 n f) o
def aaQ:Rg:=λf h=>f 6 λa=>aJ .gtr .none a (Y U 0) (aK 0 h) λb _=>ifB b (f 5 λc=>aF 0 c (aK 0 h) λd _=>aG d (aK 0 h) λi _=>f 0 λj=>aS j (aK 0 h) λm _=>aF 1 m (aK 0 h) λn _=>aG n (aK 0 h) λo _=>f 6 λp=>aJ .sub .none p (Y U 1) (aK 0 h) λq _=>bD 4 o q (aK 0 h) λr _=>aF 0 r (aK 0 h) λs _=>aG s (aK 0 h) λt _=>aJ .lss .none i t (aK 0 h) λu _=>a! (ss 36 u f) (aK 0 h)) (a! (ss 36 (K false) f) (aK 0 h))
def aaP(fr:F)(h:Hp):Out:=
 fr 0 λa=>aS a (aK 1 h) λb _=>
 aF 1 b (aK 1 h) λc _=>
 aG c (aK 1 h) λd _=>
 fr 5 λi=>cO 4 i (aK 1 h) λj _=>
 IC (eH 85 [Y U 0,Y U 0,Y U 0,Y U 0] 1 [(0,4,j)]) λf e=>
 bZ 85 4 32 d (e (Hp.next h)) (Hp.put (aK 1 h) (Hp.next h) (some f)) λm n=>
 fr 0 λo=>aS o n λp _=>
 aF 1 p n λq _=>
 aV 1 q m n λ_ r=>
 a! fr r
def anX:=r1 12 12 λa h=>aJ .add .none a (Y U 1) h
def anW:Rg:=λf h=>f 0 λa=>aS a (aK 0 h) λb _=>aF 1 b (aK 0 h) λc _=>aG c (aK 0 h) λd _=>aZ 2 d (aK 0 h) λi _=>f 0 λj=>aS j (aK 0 h) λm _=>aF 0 m (aK 0 h) λn _=>aG n (aK 0 h) λo _=>aJ .sub .none i o (aK 0 h) λp _=>a! (ss 7 p f) (aK 0 h)
def anU:=r1 59 7 λa h=>aJ .gtr .none a (Y U 0) h
def aoA:Rg:=aC anY (aC (tT 13 a! (Out.ex 0)) (aC (bI 1 (aC aaS (aC (aC aaR (aC aaQ (tT 36 (Out.ex 0) a!))) aaP))) anX))
def alv:Rg:=aC (aC an0 (tT 9 b! a!)) (aC (aC anZ (bI 0 (dI aoA lf))) (aC anW (aC anU (tT 59 zz a!))))
def NT:Fun:=c_ [0,1,5,6,7,9,10,11,12,13,36,59] f38.ntmps [] alv
def ay0:=fE2 NT rfl
def axo:fu 38 NT:=prX aO [10,11] [(5,[0,1,3,7,15,7,39,103,231,7,519,2023,4071,8167,16383,32767],fK [0,16,32,48,67,80,96,112,131,144,160,176,192,211,224,240]),(6,[0,0,2,6,14,0,32,126,255,511,1023],fK [16,32,48,67,83,97,114,0,128,144,162]),(8,[0,1,3,7,15,0,32,96,224,511,1023],fK [0,16,32,51,64,80,96,112,131,144,160])] bC func38
def afx:=r1 4 0 λa h=>aJ .eql (.ptr 16) a .cZ h
def afw:Rg:=λf h=>f 0 λa=>aS a h λb c=>aF 9 b c λd i=>H6 [d] i λj m=>a! (ss 2 j f) m
def aoe:Rg:=aC ajP (aC (aC afx (tT 4 zz a!)) (aC afw b!))
def J6:Fun:=c_ [0,2,4] f19.ntmps [.tmp 2] aoe
def ata:=fE1 J6 rfl
def aoq:fu 19 J6:=prX aO [2] [] (aU asA bC) func19
def afz:Rg:=λf h=>f 0 λa=>aS a h λb c=>aF 10 b c λd i=>aG d i λj m=>Fh [j] m λn o=>a! (ss 2 n f) o
def aof:Rg:=aC Au (aC (aC afx (tT 4 zz a!)) (aC afz b!))
def Dn:Fun:=c_ [0,2,4] f24.ntmps [.tmp 2] aof
def atb:=fE1 Dn rfl
def abk:fu 24 Dn:=prX aO [2] [] (aU as4 bC) func24
def acM:Rg:=λf h=>f 0 λa=>eU 40 a h λb c=>eY 40 [Y U 0,Y U 0,H [],Y U 0,.aQ,.aQ,Y U 0,Y U 0] c λd i=>a! (ss 2 d (ss 1 b f)) i
def acL:Rg:=λf h=>f 1 λa=>aF 4 a (aK 0 h) λb _=>aG b (aK 0 h) λc _=>rq [c] (aK 0 h) λd i=>f 1 λj=>aF 5 j i λm _=>aG m i λn _=>chk (λh=>aG m h) n ( yI [n] i λo p=>f 1 λq=>aF 4 q p λr _=>aV 1 r d p λ_ s=>f 1 λt=>aF 5 t s λu _=>aV 1 u o s λ_ v=>a! f v) 1 [(aK 0 h)]
def acK:Rg:=λf h=>f 1 λa=>cO 8 a h λb c=>f 2 λd=>aV 8 d b c λ_ i=>a! f i
def ajY:Rg:=aC acM (aC acL (aC acK b!))
def Om:Fun:=c_ [0,1,2] f43.ntmps [.cell 2 40] ajY
def aqF:=fE1 Om rfl
def ayB:fu 43 Om:=prX aO [] [(1,[0,1,3,0,8,31,31,127,255,511],fK [0,19,34,48,68,82,96,114,128,146])] (aU VD (aU alA bC)) func43
def afs:=r1 7 0 λa h=>aJ .eql (.ptr 16) a .cZ h
def afr:=rC 3 .aQ
def afq:Rg:=λf h=>f 0 λa=>aS a h λb c=>aF 11 b c λd i=>aG d i λj m=>aZ 2 j m λn o=>a! (ss 13 (Y U 0) (ss 12 n (ss 11 j f))) o
def afp:=r2 14 13 12 λa b h=>aJ .lss .none a b h
def afo:Rg:=λf h=>f 11 λa=>f 13 λb=>bD 8 a b h λc d=>cO 8 c d λi j=>eY 40 [Y U 0,Y U 0,H [],Y U 0,.aQ,.aQ,Y U 0,Y U 0] j λm n=>aV 8 m i n λ_ o=>a! (ss 5 m f) o
def afn:Rg:=λf h=>f 3 λa=>f 5 λb=>cO 8 b h λc d=>Om [c] d λi j=>bP 40 [Y U 0,Y U 0,H [],Y U 0,.aQ,.aQ,Y U 0,Y U 0] 1 [(0,8,i)] j λm n=>bZ 40 8 104 a m n λo p=>a! (ss 3 o f) p
def afm:=r1 13 13 λa h=>aJ .add .none a (Y U 1) h
def afl:=rM 2 3
def agN:Rg:=aC afp (aC (tT 14 a! (Out.ex 0)) (aC (bI 1 (aC afo afn)) afm))
def aoc:Rg:=aC Au (aC (aC afs (tT 7 zz a!)) (aC afr (aC (aC afq (bI 0 (dI agN lf))) (aC afl b!))))
def J3:Fun:=c_ [0,2,3,5,7,11,12,13,14] f15.ntmps [.tmp 2] aoc
def as8:=fE1 J3 rfl
def aop:fu 15 J3:=prX aO [2] [] (aU ayB bC) func15
def aiZ:Rg:=λf h=>f 0 λa=>aS a h λb c=>aF 11 b c λd i=>aG d i λj m=>f 3 λn=>dZ (.func 77) [] [n] m λo p=>kW [j,o] p λq r=>a! (ss 4 q f) r
def asb:Rg:=aC anD (aC aiZ b!)
def Xb:Fun:=c_ [0,1,3,4] f31.ntmps [.tmp 4] asb
def axx:=fE2 Xb rfl
def aFn:fu 31 Xb:=prX aO [] [] (aU BZ bC) func31
def ai1:Rg:=λf h=>f 0 λa=>J6 [a] (aK 0 h) λb c=>f 0 λd=>aS d c λi _=>aF 0 i c λj _=>aF 6 j c λm _=>aG m c λn _=>chk (λh=>aG m h) n ( aJ .geq .none b n c λo _=>a! (ss 2 o f) c) 1 [(aK 0 h)]
def asc:Rg:=aC aiG (aC ai1 b!)
def Px:Fun:=c_ [0,2] f34.ntmps [.tmp 2] asc
def axy:=fE1 Px rfl
def asx:fu 34 Px:=prX aO [] [(1,[0,1,0,4,12,28,60,127,255],fK [0,18,32,48,64,80,100,112,128])] (aU aoq bC) func34
def acz:=r1 7 2 λa h=>zf [a] h
def acy:Rg:=λf h=>f 7 λa=>o7 [a] h λb c=>a! f c
def acw:=rC 8 .aQ
def acv:Rg:=λf h=>f 7 λa=>pI [a] h λb c=>aZ 2 b c λd i=>a! (ss 18 (Y U 0) (ss 17 d (ss 16 b f))) i
def acu:=r2 19 18 17 λa b h=>aJ .lss .none a b h
def acs:Rg:=λf h=>f 16 λa=>f 18 λb=>bD 1 a b h λc d=>aG c d λi j=>a! (ss 10 i f) j
def acr:Rg:=λf h=>f 0 λa=>f 10 λb=>FN [a,b] (aK 0 h) λc d=>f 0 λi=>aS i d λj _=>aF 10 j d λm _=>aG m d λn _=>chk (λh=>aG m h) n ( f 1 λo=>bD 6 n c d λp _=>aF 5 p d λq _=>aV 1 q o d λ_ r=>a! f r) 1 [(aK 0 h)]
def acp:Rg:=λf h=>f 8 λa=>f 1 λb=>f 10 λc=>bK [Y U 0,Y U 0,Y U 0,Y U 0] [(0,1,b),(1,1,(Y U 1)),(2,1,c),(3,1,(Y U 2))] h λd i=>bP 85 [Y U 0,Y U 0,Y U 0,Y U 0] 1 [(0,4,d)] i λj m=>bZ 85 4 32 a j m λn o=>a! (ss 8 n f) o
def aco:=r1 18 18 λa h=>aJ .add .none a (Y U 1) h
def YV:Rg:=λf h=>f 8 λa=>aZ 2 a h λb c=>aZ 2 a c λd i=>eP 4 a none (some b) (some d) i λj m=>a! (ss 6 j f) m
def adV:Rg:=aC acu (aC (tT 19 a! (Out.ex 0)) (aC (bI 1 (aC acs (aC acr acp))) aco))
def ajV:Rg:=aC RD (aC acz (aC acy (aC acw (aC (aC acv (bI 0 (dI adV lf))) (aC YV b!)))))
def EN:Fun:=c_ [0,1,2,6,7,8,10,16,17,18,19] f39.ntmps [.tmp 6] ajV
def aqC:=fE3 EN rfl
def aj9:fu 39 EN:=prX aO [] [(7,[0,1,3,7,0,0,48,0,255,511,1023],fK [64,80,98,0,16,32,52,112,128,144,162])] (aU adQ (aU agG (aU WX (aU abl bC)))) func39
def aiU:Rg:=λf h=>f 0 λa=>aS a h λb c=>aF 9 b c λd i=>ZE [d,Y U 1] i λj m=>a! (ss 2 j f) m
def asa:Rg:=aC ajP (aC aiU b!)
def Pv:Fun:=c_ [0,2] f35.ntmps [.tmp 2] asa
def axw:=fE1 Pv rfl
def asw:fu 35 Pv:=prX aO [] [] (aU aFD bC) func35
def acn:Rg:=λf h=>f 0 λa=>eU 24 a h λb c=>a! (ss 5 (K false) (ss 4 .aQ (ss 2 b f))) c
def ack:=r1 6 1 λa h=>zf [a] h
def acj:Rg:=λf h=>f 6 λa=>o7 [a] h λb c=>a! f c
def aci:=r1 6 6 λa h=>pI [a] h
def ach:Rg:=λf h=>f 6 λa=>f 2 λb=>dZ (.func 102) [] [b] h λc d=>jb [a,c] d λi j=>oUn .not i j λm n=>a! (ss 5 m (ss 4 a f)) n
def ajU:Rg:=aC acn (aC ack (aC acj (aC aci (aC ach b!))))
def Oj:Fun:=c_ [0,1,2,4,5,6] f45.ntmps [.tmp 4,.tmp 5] ajU
def aqB:=fE2 Oj rfl
def ayy:fu 45 Oj:=prX aO [] [] (aU adQ (aU agG (aU WX (aU JR bC)))) func45
def acJ:Rg:=λf h=>eY 106 [Y U 0,Y U 0] h λa b=>a! (ss 4 a f) b
def acI:Rg:=λf h=>f 0 λa=>f 1 λb=>FN [a,b] (aK 0 h) λc d=>f 0 λi=>aS i d λj _=>aF 10 j d λm _=>aG m d λn _=>chk (λh=>aG m h) n ( bD 6 n c d λo _=>a! (ss 5 o f) d) 1 [(aK 0 h)]
def acH:Rg:=λf h=>f 5 λa=>aS a h λb c=>aF 4 b c λd i=>aG d i λj m=>aJ .add .none j (Y U 1) m λn o=>aS a o λp q=>aF 4 p q λr s=>aV 1 r n s λ_ t=>a! f t
def acG:Rg:=λf h=>f 1 λa=>f 5 λb=>aS b h λc d=>aF 4 c d λi j=>aG i j λm n=>aJ .sub .none m (Y U 1) n λo p=>bK [Y U 0,Y U 0] [(0,1,a),(1,1,o)] p λq r=>f 4 λs=>aV 2 s q r λ_ t=>a! f t
def ajX:Rg:=aC acJ (aC acI (aC acH (aC acG b!)))
def Ol:Fun:=c_ [0,1,4,5] f49.ntmps [.cell 4 106] ajX
def aqE:=fE2 Ol rfl
def ayA:fu 49 Ol:=prX aO [] [(1,[0,1,3,7,0,0,48,127,255],fK [64,80,98,0,16,32,52,112,128])] (aU abl bC) func49
def acg:Rg:=λf h=>f 0 λa=>eU 40 a h λb c=>a! (ss 2 .aQ (ss 1 b f)) c
def ace:Rg:=λf h=>f 1 λa=>aF 5 a h λb c=>aG b c λd i=>aZ 2 d i λj m=>a! (ss 9 (Y U 0) (ss 8 j (ss 7 d f))) m
def acd:=r2 10 9 8 λa b h=>aJ .lss .none a b h
def ab9:Rg:=λf h=>f 7 λa=>f 9 λb=>bD 2 a b h λc d=>cO 2 c d λi j=>eY 106 [Y U 0,Y U 0] j λm n=>aV 2 m i n λ_ o=>a! (ss 5 m f) o
def ab8:Rg:=λf h=>f 3 λa=>f 5 λb=>aF 0 b h λc d=>aG c d λi j=>bP 3 [Y U 0] 1 [(0,1,i)] j λm n=>bZ 3 1 8 a m n λo p=>a! (ss 3 o f) p
def adU:Rg:=aC acd (aC (tT 10 a! (Out.ex 0)) (aC (bI 1 (aC ab9 ab8)) mP))
def ajT:Rg:=aC acg (aC afr (aC (aC ace (bI 0 (dI adU lf))) (aC afl b!)))
def Oi:Fun:=c_ [0,1,2,3,5,7,8,9,10] f37.ntmps [.tmp 2] ajT
def aqA:=fE1 Oi rfl
def ayx:fu 37 Oi:=prX aO [] [] bC func37
def MN:=r1 10 0 λa h=>aJ .eql (.ptr 16) a .cZ h
def ML:=r2 5 0 1 λa b h=>Xb [a,b] h
def MK:=r1 14 5 λa h=>aJ .lss .none a (Y U 0) h
def MJ:=r1 17 0 λa h=>Px [a] h
def MI:=r1 6 0 λa h=>Pv [a] h
def MH:Rg:=λf h=>f 0 λa=>aS a h λb c=>aF 11 b c λd i=>aG d i λj m=>f 5 λn=>bD 8 j n m λo p=>cO 8 o p λq r=>eY 40 [Y U 0,Y U 0,H [],Y U 0,.aQ,.aQ,Y U 0,Y U 0] r λs t=>aV 8 s q t λ_ u=>a! (ss 7 s f) u
def IW:Rg:=λf h=>f 0 λa=>aS a h λb c=>aF 11 b c λd i=>aG d i λj m=>f 5 λn=>aJ .add .none n (Y U 1) m λo p=>AQ [j,n,o] p λq r=>aS a r λs t=>aF 11 s t λu v=>aV 1 u q v λ_ w=>a! f w
def IV:Rg:=λf h=>f 0 λa=>aS a (aK 0 h) λb _=>aF 15 b (aK 0 h) λc _=>aG c (aK 0 h) λd _=>f 7 λi=>aF 2 i (aK 0 h) λj _=>aG j (aK 0 h) λm _=>aZ 1 m (aK 0 h) λn _=>aJ .sub .none d n (aK 0 h) λo _=>aS a (aK 0 h) λp _=>aF 15 p (aK 0 h) λq _=>aV 1 q o (aK 0 h) λ_ r=>a! f r
def IU:=rC 8 (Y U 3)
def IQ:Rg:=λf h=>f 0 λa=>aS a h λb c=>aF 11 b c λd i=>aG d i λj m=>f 7 λn=>dZ (.func 52) [] [n] m λo p=>pG [j,o] p λq r=>a! (ss 55 q f) r
def WB:=rC 8 (Y U 2)
def IL(fr:F)(h:Hp):Out:=
 fr 7 λa=>cO 8 a (aK 1 h) λb _=>
 Oi [b] (aK 1 h) λc d=>
 fr 0 λi=>fr 6 λj=>EN [i,j,c] d λm n=>
 fr 6 λo=>fr 1 λp=>bK [Y U 0,Y U 0,Y U 0,Y U 0] [(0,1,o),(1,1,(Y U 2)),(2,1,p),(3,1,(Y U 3))] n λq _=>
 fr 6 λr=>fr 7 λs=>aF 1 s n λt _=>
 aG t n λu _=>chk (λh=>aG t h) u (
 fr 8 λv=>bK [Y U 0,Y U 0,Y U 0,Y U 0] [(0,1,r),(1,1,(Y U 3)),(2,1,u),(3,1,v)] n λw _=>
 IC (eH 85 [Y U 0,Y U 0,Y U 0,Y U 0,Y U 0,Y U 0,Y U 0,Y U 0] 2 [(0,4,q),(4,4,w)]) λf e=>
 bZ 85 4 32 m (e (Hp.next h)) (Hp.put n (Hp.next h) (some f)) λx y=>
 fr 0 λz=>aS z y λl _=>
 aF 12 l y λg _=>
 aG g y λk _=>chk (λh=>aG g h) k (
 NT [k,x] y λC B=>
 a! fr B) 3 [n,d,(aK 1 h)]) 2 [d,(aK 1 h)]
def U6:Rg:=aC awX (aC (aC MN (tT 10 zz a!)) (aC ML (aC (bI 0 (aC MK (tT 14 zz (aC MJ (tT 17 zz a!))))) (aC MI (aC MH (aC IW (aC IV (aC IU (aC (aC IQ (tT 55 WB a!)) (aC IL (aC awX b!)))))))))))
def wQ:Fun:=c_ [0,1,4,5,6,7,8,10,14,17,55] f21.ntmps [.tmp 4] U6
def aoH:=fE2 wQ rfl
def axl:fu 21 wQ:=prX aO [2,5,7] [(11,[0,1,3,7,0,16,48,127,255,511,1023],fK [0,16,32,51,64,83,96,112,128,144,162]),(15,[0,1,3,7,0,0,0,64,240,0,0,1536,0,0,8192,0,61440,130560,262128,524287],fK [99,114,64,80,130,144,160,176,192,208,229,240,256,273,290,0,16,32,54,306])] (aU aFn (aU asx (aU asw (aU aos (aU Zq (aU ayx (aU aj9 (aU axo bC)))))))) func21
def ab5:=rC 4 .aQ
def ab4:=rC 5 .aQ
def ab3:Rg:=λf h=>f 0 λa=>J3 [a] h λb c=>aZ 2 b c λd i=>a! (ss 13 (Y U 0) (ss 12 d (ss 11 b f))) i
def ab1:Rg:=λf h=>f 11 λa=>f 13 λb=>bD 8 a b h λc d=>cO 8 c d λi j=>eY 40 [Y U 0,Y U 0,H [],Y U 0,.aQ,.aQ,Y U 0,Y U 0] j λm n=>aV 8 m i n λ_ o=>a! (ss 7 m f) o
def abZ:Rg:=λf h=>f 7 λa=>aF 5 a h λb c=>aG b c λd i=>aZ 2 d i λj m=>a! (ss 20 (Y U 0) (ss 19 j (ss 18 d f))) m
def abY:=r2 21 20 19 λa b h=>aJ .lss .none a b h
def P9:Rg:=λf h=>f 18 λa=>f 20 λb=>bD 2 a b h λc d=>cO 2 c d λi j=>eY 106 [Y U 0,Y U 0] j λm n=>aV 2 m i n λ_ o=>a! (ss 9 m f) o
def P8:Rg:=λf h=>f 9 λa=>aF 0 a h λb c=>aG b c λd i=>f 1 λj=>aJ .eql .none d j i λm n=>a! (ss 27 m f) n
def abX:Rg:=λf h=>f 5 λa=>f 9 λb=>aF 1 b h λc d=>aG c d λi j=>f 7 λm=>cO 8 m j λn o=>bK [Y U 0,Y U 0,Y U 0,H [],Y U 0,.aQ,.aQ,Y U 0,Y U 0] [(0,1,i),(1,8,n)] o λp q=>bP 250 [Y U 0,Y U 0,Y U 0,H [],Y U 0,.aQ,.aQ,Y U 0,Y U 0] 1 [(0,9,p)] q λr s=>bZ 250 9 112 a r s λt u=>a! (ss 5 t f) u
def YM:=r1 20 20 λa h=>aJ .add .none a (Y U 1) h
def YK:Rg:=λf h=>f 5 λa=>uT [a,(.func (.func 284) .nil .nil)] h λb c=>a! f c
def adS:Rg:=aC abY (aC (tT 21 a! (Out.ex 2)) (aC (bI 3 (aC P9 (aC P8 (tT 27 abX a!)))) YM))
def adT:Rg:=aC afp (aC (tT 14 a! (Out.ex 0)) (aC (bI 1 (aC ab1 (aC abZ (bI 2 (dI adS lf))))) afm))
def ajS:Rg:=aC ab5 (aC ab4 (aC (aC ab3 (bI 0 (dI adT lf))) (aC YK (aC KR b!))))
def zu:Fun:=c_ [0,1,4,5,7,9,11,12,13,14,18,19,20,21,27] f175.ntmps [.tmp 4] ajS
def aqz:=fE2 zu rfl
def aj8:fu 175 zu:=prX aO [] [] (aU aop (aU agH bC)) func175
def anr:Rg:=λf h=>f 1 λa=>eU 250 a h λb c=>a! (ss 3 b f) c
def anq:Rg:=λf h=>f 3 λa=>aF 0 a h λb c=>aG b c λd i=>aF 1 a i λj m=>aF 0 j m λn o=>aG n o λp q=>bK [Y U 0] [] q λr s=>eU 75 r s λt u=>bK [Y U 0,Y U 0,.cZ] [(0,1,d),(1,1,p),(2,1,t)] u λv w=>eY 248 [Y U 0,Y U 0,.cZ] w λx y=>aV 3 x v y λ_ z=>a! (ss 4 x f) z
def anp:Rg:=λf h=>f 4 λa=>aF 2 a h λb c=>aG b c λd i=>f 3 λj=>aF 1 j i λm n=>aF 6 m n λo p=>aG o p λq r=>yK [d,q] r λs t=>a! f t
def ano(fr:F)(h:Hp):Out:=
 fr 0 λa=>aS a (aK 1 h) λb _=>
 aF 1 b (aK 1 h) λc _=>
 aG c (aK 1 h) λd _=>
 fr 4 λi=>cO 3 i (aK 1 h) λj _=>
 IC (eH 248 [Y U 0,Y U 0,.cZ] 1 [(0,3,j)]) λf e=>
 bZ 248 3 24 d (e (Hp.next h)) (Hp.put (aK 1 h) (Hp.next h) (some f)) λm n=>
 fr 0 λo=>aS o n λp _=>
 aF 1 p n λq _=>
 aV 1 q m n λ_ r=>
 a! fr r
def ann:Rg:=λf h=>f 0 λa=>f 0 λb=>aS b (aK 0 h) λc _=>aF 2 c (aK 0 h) λd _=>aG d (aK 0 h) λi _=>f 3 λj=>aF 0 j (aK 0 h) λm _=>aG m (aK 0 h) λn _=>akv i n (aK 0 h) λo _=>aS a (aK 0 h) λp _=>aF 2 p (aK 0 h) λq _=>aV 1 q o (aK 0 h) λ_ r=>a! f r
def aw0:Rg:=aC anr (aC anq (aC anp (aC ano ann)))
def abC:Fun:=c_ [0,1,3,4] f181.ntmps [] aw0
def ayR:=fE2 abC rfl
def aHN:fu 181 abC:=prX aO [] [(3,[0,0,2,6,14,0,32,126,255,511,1023],fK [16,32,48,67,83,97,114,0,128,144,162]),(4,[0,0,2,6,14,0,32,126,255,511,1023],fK [0,16,32,48,67,80,99,112,128,144,162])] (aU aow bC) func181
def am9:Rg:=λf h=>f 1 λa=>eU 3 a h λb c=>a! (ss 5 (Y U 0) (ss 4 .cZ (ss 3 b f))) c
def am8:=r1 9 0 λa h=>aJ .eql (.ptr 16) a .cZ h
def am7:Rg:=λf h=>f 0 λa=>Dn [a] h λb c=>f 3 λd=>dZ (.func 290) [] [d] c λi j=>mD [b,i] j λm n=>oUn .not m n λo p=>a! (ss 12 o f) p
def am6:Rg:=λf h=>f 3 λa=>aG a h λb c=>bK [Y U 0,.aQ,Y U 0] [(0,1,b)] c λd i=>eU 246 d i λj m=>a! (ss 6 j f) m
def am5:Rg:=λf h=>f 0 λa=>f 3 λb=>aG b h λc d=>zu [a,c] d λi j=>aZ 2 i j λm n=>a! (ss 25 (Y U 0) (ss 24 m (ss 23 i f))) n
def am4:=r2 26 25 24 λa b h=>aJ .lss .none a b h
def am3:Rg:=λf h=>f 23 λa=>f 25 λb=>bD 9 a b h λc d=>cO 9 c d λi j=>eY 250 [Y U 0,Y U 0,Y U 0,H [],Y U 0,.aQ,.aQ,Y U 0,Y U 0] j λm n=>aV 9 m i n λ_ o=>a! (ss 8 m f) o
def am2:Rg:=λf h=>f 6 λa=>f 8 λb=>cO 9 b h λc d=>abC [a,c] d λi j=>a! f j
def aiB:=r1 25 25 λa h=>aJ .add .none a (Y U 1) h
def aiA:Rg:=λf h=>f 6 λa=>a! (ss 5 (Y U 0) (ss 4 a f)) h
def aoy:Rg:=aC am4 (aC (tT 26 a! (Out.ex 1)) (aC (bI 2 (aC am3 am2)) aiB))
def alq:Rg:=aC am9 (aC (bI 0 (aC am8 (tT 9 zz (aC am7 (tT 12 zz a!))))) (aC am6 (aC (aC am5 (bI 1 (dI aoy lf))) (aC aiA b!))))
def abA:Fun:=c_ [0,1,3,4,5,6,8,9,12,23,24,25,26] f185.ntmps [.tmp 4,.tmp 5] alq
def ayO:=fE2 abA rfl
def aHL:fu 185 abA:=prX aO [2,4] [] (aU abk (aU abp (aU aj8 (aU aHN bC)))) func185
def anl:=r1 4 0 λa h=>aJ .eql (.ptr 3) a .cZ h
def ank:Rg:=λf h=>f 0 λa=>aS a h λb c=>aF 0 b c λd i=>aG d i λj m=>a! (ss 2 j f) m
def awZ:Rg:=aC ajP (aC (aC anl (tT 4 zz a!)) (aC ank b!))
def VH:Fun:=c_ [0,2,4] f138.ntmps [.tmp 2] awZ
def ayQ:=fE1 VH rfl
def axh:fu 138 VH:=prX aO [2] [] bC func138
def aiw:=r1 7 0 λa h=>aJ .eql (.ptr 3) a .cZ h
def aiu:Rg:=λf h=>f 0 λa=>aS a h λb c=>aF 1 b c λd i=>aG d i λj m=>aZ 2 j m λn o=>a! (ss 13 (Y U 0) (ss 12 n (ss 11 j f))) o
def ais:Rg:=λf h=>f 11 λa=>f 13 λb=>bD 3 a b h λc d=>cO 3 c d λi j=>eY 248 [Y U 0,Y U 0,.cZ] j λm n=>aV 3 m i n λ_ o=>a! (ss 5 m f) o
def akc:Rg:=aC afp (aC (tT 14 a! (Out.ex 0)) (aC (bI 1 (aC ais ab8)) afm))
def ar8:Rg:=aC Au (aC (aC aiw (tT 7 zz a!)) (aC afr (aC (aC aiu (bI 0 (dI akc lf))) (aC afl b!))))
def Hz:Fun:=c_ [0,2,3,5,7,11,12,13,14] f139.ntmps [.tmp 2] ar8
def axr:=fE1 Hz rfl
def agF:fu 139 Hz:=prX aO [2] [] bC func139
def anc:Rg:=λf h=>f 3 λa=>f 5 λb=>aF 1 b h λc d=>aG c d λi j=>bP 3 [Y U 0] 1 [(0,1,i)] j λm n=>bZ 3 1 8 a m n λo p=>a! (ss 3 o f) p
def aoz:Rg:=aC afp (aC (tT 14 a! (Out.ex 0)) (aC (bI 1 (aC ais anc)) afm))
def awY:Rg:=aC Au (aC (aC aiw (tT 7 zz a!)) (aC afr (aC (aC aiu (bI 0 (dI aoz lf))) (aC afl b!))))
def abB:Fun:=c_ [0,2,3,5,7,11,12,13,14] f221.ntmps [.tmp 2] awY
def ayP:=fE1 abB rfl
def aHM:fu 221 abB:=prX aO [2] [] bC func221
def axN:Fun:=atu
def aPu:fu 282 axN:=auh func282 kR kR kR kR
def ale:Rg:=λf h=>f 0 λa=>aS a h λb c=>aF 0 b c λd i=>aG d i λj m=>aJ .eql (.ptr 2) j .cZ m λn o=>a! (ss 6 n f) o
def awG:Rg:=λf h=>f 0 λa=>ao9 a h λb c=>axN [b] c λd i=>Yw prog 141 d i λj m=>aS a m λn o=>aF 0 n o λp q=>aV 1 p j q λ_ r=>a! f r
def awF:Rg:=λf h=>f 0 λa=>aS a h λb c=>aF 0 b c λd i=>aG d i λj m=>aJ .neq (.ptr 2) j a m λn o=>a! (ss 19 n f) o
def axb:Rg:=aC ale (tT 6 awG (aC awF (tT 19 aQp a!)))
def agX:Fun:=c_ [0,6,19] f173.ntmps [] axb
def aFI:=fE1 agX rfl
def aFC:fu 173 agX:=prX aO [] [] (aU aPu bC) func173
def awR:Rg:=λf h=>a! (ss 5 .oQ (ss 4 (Y U 0) f)) h
def awQ:Rg:=λf h=>f 0 λa=>agX [a] h λb c=>a! f c
def awP:Rg:=λf h=>f 0 λa=>aS a h λb c=>aF 1 b c λd i=>aG d i λj m=>f 1 λn=>bZ 5 1 1 j n m λo p=>aS a p λq r=>aF 1 q r λs t=>aV 1 s o t λ_ u=>a! f u
def awO:Rg:=λf h=>f 1 λa=>aZ 1 a h λb c=>a! (ss 5 .oQ (ss 4 b f)) c
def aFg:Rg:=aC awR (aC awQ (aC awP (aC awO b!)))
def zi:Fun:=c_ [0,1,4,5] f96.ntmps [.tmp 4,.tmp 5] aFg
def aFJ:=fE2 zi rfl
def aox:fu 96 zi:=prX aO [] [] (aU aFC bC) func96
def axM:Fun:=aeQ 5
def aPt:fu 384 axM:=ari (ps:=f384.params) func384 kR kR kR underlying43 kR
def awE:Rg:=λf h=>f 0 λa=>aS a (aK 0 h) λb _=>aF 1 b (aK 0 h) λc _=>aG c (aK 0 h) λd _=>apd d (aK 0 h) λi j=>aJ .mul .none (Y U 2) i j λm _=>f 1 λn=>aJ .add .none m n j λo _=>axM [o] j λp q=>f 0 λr=>aS r q λs _=>aF 1 s q λt _=>aG t q λu _=>chk (λh=>aG t h) u ( aZ 2 u q λv _=>eP 1 p none (some v) none q λw _=>a! (ss 4 w f) q) 2 [j,(aK 0 h)]
def awD:Rg:=λf h=>f 4 λa=>f 0 λb=>aS b h λc d=>aF 1 c d λi j=>aG i j λm n=>ami 1 a m n λo p=>a! f p
def awC:Rg:=λf h=>f 0 λa=>f 4 λb=>aS a h λc d=>aF 1 c d λi j=>aV 1 i b j λ_ m=>a! f m
def aFf:Rg:=aC awE (aC awD awC)
def aoM:Fun:=c_ [0,1,4] f303.ntmps [] aFf
def aFH:=fE2 aoM rfl
def aPv:fu 303 aoM:=prX aO [] [(0,[0,1,3,7,15,31,0,127,255,0,512,1536,3584,7680,16383,32767],fK [0,16,32,51,66,80,96,112,130,144,160,176,197,208,224,240])] (aU aPt bC) func303
def alg:=r1 7 1 λa h=>aJ .lss .none a (Y U 0) h
def alf:Rg:=λf h=>f 0 λa=>aS a (aK 0 h) λb _=>aF 1 b (aK 0 h) λc _=>aG c (aK 0 h) λd _=>apd d (aK 0 h) λi j=>f 0 λm=>aS m j λn _=>aF 1 n j λo _=>aG o j λp _=>chk (λh=>aG o h) p ( aZ 2 p j λq _=>aJ .sub .none i q j λr _=>f 1 λs=>aJ .lss .none r s j λt _=>a! (ss 21 t f) j) 1 [(aK 0 h)]
def awH:Rg:=λf h=>f 0 λa=>f 1 λb=>aoM [a,b] h λc d=>a! f d
def axc:Rg:=aC awQ (aC (aC alg (tT 7 zz a!)) (aC alf (tT 21 awH a!)))
def aoN:Fun:=c_ [0,1,7,21] f204.ntmps [] axc
def asC:=fE2 aoN rfl
def aPx:fu 204 aoN:=prX aO [2] [(3,[0,1,3,7,15,0,32,96,224,480,1023,0,4095],fK [0,16,32,51,66,80,96,112,132,144,160,176,192])] (aU aFC (aU aPv bC)) func204
def ali:Rg:=λf h=>f 0 λa=>aS a (aK 0 h) λb _=>aF 1 b (aK 0 h) λc _=>aG c (aK 0 h) λd _=>CW d (aK 0 h) λi j=>f 0 λm=>aS m j λn _=>aF 1 n j λo _=>aG o j λp _=>chk (λh=>aG o h) p ( aZ 2 p j λq _=>Ij 5 i q j λr s=>a! (ss 2 r f) s) 1 [(aK 0 h)]
def axd:Rg:=aC awU (aC ali b!)
def Kr:Fun:=c_ [0,2] f99.ntmps [.tmp 2] axd
def asD:=fE1 Kr rfl
def axq:fu 99 Kr:=prX aO [] [(1,[0,1,3,7,15,0,32,96,224,480,1023,2047],fK [0,16,32,51,66,80,96,112,132,144,162,176])] bC func99
def Zk:=rC 4 (H [])
def Zj:=r1 12 0 λa h=>aZ 2 a h
def Zi:=r1 13 12 λa h=>aJ .eql .none a (Y U 0) h
def ahI:=r1 15 12 λa h=>aJ .eql .none a (Y U 1) h
def aBj:Rg:=λf h=>f 0 λa=>bD 1 a (Y U 0) h λb c=>aG b c λd i=>a! (ss 4 d f) i
def aqm:=rC 5 (Y U 0)
def aql:Rg:=λf h=>f 1 λa=>aZ 1 a h λb c=>aJ .gtr .none b (Y U 0) c λd i=>a! (ss 22 d f) i
def aBi:Rg:=λf h=>f 1 λa=>aZ 1 a h λb c=>f 0 λd=>aZ 2 d c λi j=>aJ .sub .none i (Y U 1) j λm n=>aJ .quo .none (Y U 9223372036854775807) m n λo p=>aJ .geq .none b o p λq r=>a! (ss 29 q f) r
def awz:Rg:=λf h=>f 5 λa=>f 1 λb=>aZ 1 b h λc d=>f 0 λi=>aZ 2 i d λj m=>aJ .sub .none j (Y U 1) m λn o=>aJ .mul .none c n o λp q=>aJ .add .none a p q λr s=>a! (ss 5 r f) s
def ala:Rg:=λf h=>f 0 λa=>aZ 2 a h λb c=>a! (ss 41 (Y U 0) (ss 40 b (ss 39 a f))) c
def ak9:=r2 42 41 40 λa b h=>aJ .lss .none a b h
def awy:Rg:=λf h=>f 39 λa=>f 41 λb=>bD 1 a b h λc d=>aG c d λi j=>a! (ss 7 i f) j
def awx:Rg:=λf h=>f 7 λa=>aZ 1 a h λb c=>f 5 λd=>aJ .sub .none (Y U 9223372036854775807) d c λi j=>aJ .gtr .none b i j λm n=>a! (ss 49 m f) n
def aww:Rg:=λf h=>f 5 λa=>f 7 λb=>aZ 1 b h λc d=>aJ .add .none a c d λi j=>a! (ss 5 i f) j
def awv:=r1 41 41 λa h=>aJ .add .none a (Y U 1) h
def ak8:Rg:=λf h=>eY 141 [.cZ,.aQ] h λa b=>a! (ss 8 a f) b
def ak7:Rg:=λf h=>f 5 λa=>f 8 λb=>aoN [b,a] h λc d=>a! f d
def ak6:Rg:=λf h=>f 0 λa=>bD 1 a (Y U 0) h λb c=>aG b c λd i=>f 8 λj=>zi [j,d] i λm n=>a! f n
def ak5:Rg:=λf h=>f 0 λa=>eP 1 a (some (Y U 1)) none none h λb c=>aZ 2 b c λd i=>a! (ss 65 (Y U 0) (ss 64 d (ss 63 b f))) i
def ak4:=r2 66 65 64 λa b h=>aJ .lss .none a b h
def awu:Rg:=λf h=>f 63 λa=>f 65 λb=>bD 1 a b h λc d=>aG c d λi j=>a! (ss 10 i f) j
def awt:Rg:=λf h=>f 1 λa=>f 8 λb=>zi [b,a] h λc d=>a! f d
def aws:Rg:=λf h=>f 10 λa=>f 8 λb=>zi [b,a] h λc d=>a! f d
def awr:=r1 65 65 λa h=>aJ .add .none a (Y U 1) h
def ak3:=r1 4 8 λa h=>Kr [a] h
def abz:Rg:=aC ak9 (aC (tT 42 a! (Out.ex 1)) (aC (bI 2 (aC awy (aC (aC awx (tT 49 zz a!)) aww))) awv))
def aby:Rg:=aC ak4 (aC (tT 66 a! (Out.ex 3)) (aC (bI 4 (aC awu (aC awt aws))) awr))
def aom:Rg:=aC Zk (aC (aC Zj (bI 0 (aC Zi (tT 13 (aC Zk b!) (aC ahI (tT 15 (aC aBj b!) a!)))))) (aC aqm (aC (aC aql (tT 22 (aC (aC aBi (tT 29 zz a!)) awz) a!)) (aC (aC ala (bI 1 (dI abz lf))) (aC ak8 (aC ak7 (aC ak6 (aC (aC ak5 (bI 3 (dI aby lf))) (aC ak3 b!)))))))))
def ahN:Fun:=c_ [0,1,4,5,7,8,10,12,13,15,22,29,39,40,41,42,49,63,64,65,66] f128.ntmps [.tmp 4] aom
def aHZ:=fE2 ahN rfl
def aDt:fu 128 ahN:=prX aO [9,15] [] (aU aPx (aU aox (aU axq bC))) func128
def aBw:Rg:=λf h=>f 1 λa=>ahN [a,H [32]] (aK 0 h) λb c=>f 0 λd=>aS d c λi _=>aF 5 i c λj _=>zi [j,b] c λm n=>a! f n
def aBv:Rg:=λf h=>f 0 λa=>aS a h λb c=>aF 5 b c λd i=>zi [d,H [13,10]] i λj m=>a! f m
def aIv:Rg:=aC aBw aBv
def wu:Fun:=c_ [0,1] f98.ntmps [] aIv
def aH2:=fE2 wu rfl
def atH:fu 98 wu:=prX aO [] [(0,[0,1,3,0,8,31],fK [48,66,0,16,32,82])] (aU aDt (aU aox bC)) func98
def aBn:Rg:=λf h=>eY 62 [H [],H [],Y U 0,Y U 0,Y U 0,Y U 0,Y U 0,Y U 0,Y U 0] h λa b=>a! (ss 2 a f) b
def aBl:Rg:=λf h=>f 0 λa=>aS a h λb c=>aF 0 b c λd i=>cO 9 d i λj m=>f 2 λn=>aV 9 n j m λ_ o=>a! f o
def aIt:Rg:=aC aBn (aC (aC afx (tT 4 zz a!)) (aC aBl b!))
def atI:Fun:=c_ [0,2,4] f111.ntmps [.cell 2 62] aIt
def aH0:=fE1 atI rfl
def aP8:fu 111 atI:=prX aO [2] [] bC func111
def aBy:Rg:=λf h=>eY 145 [Y U 0,H [],(K false),(K false),(K false)] h λa b=>a! (ss 0 a f) b
def aBx:Rg:=λf h=>bK [Y U 0,H [],(K false),(K false),(K false)] [(0,1,(Y U 2)),(1,1,(H [119,111,114,100,115]))] h λa b=>f 0 λc=>aV 5 c a b λ_ d=>a! f d
def aDe:Rg:=aC aBy (aC aBx b!)
def atJ:Fun:=c_ [0] f109.ntmps [.cell 0 145] aDe
def aH3(h:Hp):atJ [] h=bU prog [.cell 0 145] (aDe T.nil h):=kR
def aP9:fu 109 atJ:=prX aO [] [] bC func109
def aDz:Fun:=c_ [0] f136.ntmps [.cell 0 145] aFW
def aP7:fu 136 aDz:=prX aO [0,1] [] bC func136
def alo:Rg:=λf h=>f 1 λa=>f 0 λb=>aZ 2 b h λc d=>aJ .lss .none a c d λi j=>ifB i (bD 3 b a j λm n=>aF 0 m n λo p=>aG o p λq r=>aJ .eql .none q (Y U 1) r λs t=>a! (ss 4 s f) t) (a! (ss 4 (K false) f) j)
def axe:Rg:=aC afk (aC alo b!)
def EU:Fun:=c_ [0,1,4] f93.ntmps [.tmp 4] axe
def aFM:=fE2 EU rfl
def aFE:fu 93 EU:=prX aO [] [] bC func93
def aBu:Rg:=λf h=>a! (ss 5 (K false) (ss 4 .aQ f)) h
def aBs:Rg:=λf h=>f 0 λa=>aS a h λb c=>aF 3 b c λd i=>aG d i λj m=>aZ 2 j m λn o=>a! (ss 14 (Y U 0) (ss 13 n (ss 12 j f))) o
def ahJ:=r2 15 14 13 λa b h=>aJ .lss .none a b h
def aqo:Rg:=λf h=>f 12 λa=>f 14 λb=>bD 3 a b h λc d=>cO 3 c d λi j=>eY 149 [Y U 0,H [],.aQ] j λm n=>aV 3 m i n λ_ o=>a! (ss 8 m f) o
def aqn:Rg:=λf h=>f 8 λa=>aF 0 a h λb c=>aG b c λd i=>aJ .eql .none d (Y U 3) i λj m=>a! (ss 20 j f) m
def aBq:Rg:=λf h=>f 6 λa=>f 8 λb=>aF 1 b h λc d=>aG c d λi j=>bP 9 [H []] 1 [(0,1,i)] j λm n=>bZ 9 1 16 a m n λo p=>a! (ss 6 o f) p
def aBp:=r1 14 14 λa h=>aJ .add .none a (Y U 1) h
def aBo:Rg:=λf h=>f 6 λa=>aZ 2 a h λb c=>f 1 λd=>aJ .eql .none b d c λi j=>a! (ss 5 i (ss 4 a f)) j
def ahK:Rg:=aC ahJ (aC (tT 15 a! (Out.ex 0)) (aC (bI 1 (aC aqo (aC (aC aqn (tT 20 (aC aBu b!) a!)) aBq))) aBp))
def aIu:Rg:=aC aBu (aC RD (aC (aC aBs (bI 0 (dI ahK lf))) (aC aBo b!)))
def abO:Fun:=c_ [0,1,4,5,6,8,12,13,14,15,20] f110.ntmps [.tmp 4,.tmp 5] aIu
def aH1:=fE2 abO rfl
def aIy:fu 110 abO:=prX aO [] [] bC func110
def aqu:Rg:=λf h=>eY 145 [Y U 0,H [],(K false),(K false),(K false)] h λa b=>a! (ss 4 a f) b
def aqt:Rg:=λf h=>f 1 λa=>aS a h λb c=>aF 3 b c λd i=>aG d i λj m=>aZ 2 j m λn o=>aJ .gtr .none n (Y U 0) o λp q=>a! (ss 10 p f) q
def aBI:Rg:=λf h=>atJ [] h λa b=>f 4 λc=>aV 5 c a b λ_ d=>a! f d
def aBH:Rg:=λf h=>f 1 λa=>bP 9 [H []] 1 [(0,1,(H [42,32,67,65,80,65,66,73,76,73,84,89,32,73,77,65,80,52,114,101,118,49,32,76,73,84,69,82,65,76,43,32,85,73,68,80,76,85,83,32,77,79,86,69,32,67,79,78,68,83,84,79,82,69]))] h λb c=>wu [a,b] c λd i=>a! f i
def aBG:Rg:=λf h=>bK [Y U 0,H [],(K false),(K false),(K false)] [] h λa b=>f 4 λc=>aV 5 c a b λ_ d=>a! f d
def aon:Rg:=aC aqu (aC (aC aqt (tT 10 (aC aBI b!) a!)) (aC aBH (aC aBG b!)))
def aDB:Fun:=c_ [1,4,10] f57.ntmps [.cell 4 145] aon
def aH6(b a:V)(h:Hp):aDB [b,a] h=bU prog [.cell 4 145] (aon (ss 1 a T.nil) h):=kR
def aQH:fu 57 aDB:=prX aO [] [] (aU aP9 (aU atH bC)) func57
def aBE:Rg:=λf h=>f 1 λa=>abO [a,Y U 2] h λb c=>bJ 0 b c λd i=>bJ 1 b i λj m=>a! (ss 6 j (ss 5 d f)) m
def aBD:=r1 14 6 λa h=>oUn .not a h
def aBC:Rg:=λf h=>f 1 λa=>aS a h λb c=>aF 1 b c λd i=>aG d i λj m=>atI [j] m λn o=>eY 62 [H [],H [],Y U 0,Y U 0,Y U 0,Y U 0,Y U 0,Y U 0,Y U 0] o λp q=>aV 9 p n q λ_ r=>a! (ss 7 p f) r
def aBB:Rg:=λf h=>f 5 λa=>bD 1 a (Y U 0) (aK 0 h) λb _=>aG b (aK 0 h) λc _=>f 7 λd=>aF 0 d (aK 0 h) λi _=>aG i (aK 0 h) λj _=>aJ .neq .none c j (aK 0 h) λm _=>ifB m (a! (ss 34 (K true) f) (aK 0 h)) (f 5 λn=>bD 1 n (Y U 1) (aK 0 h) λo _=>aG o (aK 0 h) λp _=>f 7 λq=>aF 1 q (aK 0 h) λr _=>aG r (aK 0 h) λs _=>aJ .neq .none p s (aK 0 h) λt _=>a! (ss 34 t f) (aK 0 h))
def aBA:Rg:=λf h=>f 0 λa=>aS a h λb c=>aF 0 b c λd i=>aV 1 d (K true) i λ_ j=>a! f j
def aIx:Rg:=aC aqu (aC aBE (aC (aC aBD (tT 14 zz a!)) (aC (aC aBC (aC aBB (tT 34 zz a!))) (aC aBA (aC aBG b!)))))
def atK:Fun:=c_ [0,1,4,5,6,7,14,34] f60.ntmps [.cell 4 145] aIx
def aH5:=fE2 atK rfl
def aQb:fu 60 atK:=prX aO [3,6] [(5,[0,1,3,0,8,31,63,127,255,511,127,1151,4095,8191],fK [0,16,35,48,67,80,96,112,128,147,160,179,192,208])] (aU aIy (aU aP8 bC)) func60
abbrev XI:Fun:=Ik.awk
def ayw:fu 120 XI:=Ik.aHy
def YQ:Rg:=λf h=>f 0 λa=>f 3 λb=>dZ (.func 301) [] [b] h λc d=>kD [a,c] d λi j=>a! (ss 4 i f) j
def agz:Rg:=aC anD (aC YQ b!)
def JY:Fun:=c_ [0,1,3,4] f201.ntmps [.tmp 4] agz
def aoF:=fE2 JY rfl
def axi:fu 201 JY:=prX aO [] [] (aU vX bC) func201
def I8:Rg:=λf h=>f 0 λa=>aZ 2 a h λb c=>aJ .sub .none b (Y U 1) c λd i=>a! (ss 3 d (ss 2 (Y U 0) f)) i
def I7:=r2 9 2 3 λa b h=>aJ .lss .none a b h
def JS:Rg:=aC (aC I7 (tT 9 a! (Out.ex 0))) zz
def BV:Rg:=aC I8 (bI 0 (dI JS lf))
def uV:Fun:=c_ [0,2,3,9] f202.ntmps [] BV
def Zx:=fE1 uV rfl
def agJ:fu 202 uV:=prX aO [3,2] [] bC func202
def aiN:=r2 6 0 1 λa b h=>JY [a,b] h
def aiM:Rg:=λf h=>f 6 λa=>aJ .lss .none a (Y U 0) h λb c=>ifB b (a! (ss 18 (K true) f) c) (f 5 λd=>aZ 2 d c λi j=>f 0 λm=>aZ 2 m j λn o=>aJ .eql .none i n o λp q=>a! (ss 18 p f) q)
def aiL:Rg:=λf h=>f 5 λa=>f 0 λb=>f 6 λc=>bD 6 b c h λd i=>aF 1 d i λj m=>aG j m λn o=>bP 9 [H []] 1 [(0,1,n)] o λp q=>bZ 9 1 16 a p q λr s=>a! (ss 5 r f) s
def aiK:Rg:=λf h=>f 0 λa=>f 6 λb=>bD 6 a b h λc d=>aF 2 c d λi j=>aG i j λm n=>a! (ss 1 m f) n
def aiJ:=r1 33 1 λa h=>aJ .eql .none a (Y U 0) h
def aiI:Rg:=λf h=>f 5 λa=>uV [a] h λb c=>a! f c
def aiH:=r1 4 5 λa h=>ahN [a,H [47]] h
def ake:Rg:=bI 1 (aC aiN (aC (aC aiM (tT 18 zz a!)) (aC aiL (aC aiK (aC aiJ (tT 33 (Out.ex 0) a!))))))
def agA:Rg:=aC Zk (aC ab4 (aC a! (aC (bI 0 (dI ake lf)) (aC aiI (aC aiH b!)))))
def WZ:Fun:=c_ [0,1,4,5,6,18,33] f122.ntmps [.tmp 4] agA
def axu:=fE2 WZ rfl
def aFl:fu 122 WZ:=prX aO [4] [] (aU axi (aU agJ (aU aDt bC))) func122
def Xz:Rg:=λf h=>a! (ss 5 (K false) (ss 4 (Y U 0) f)) h
def Xy:Rg:=λf h=>f 1 λa=>uY [a] h λb c=>uY [H [73,78,66,79,88]] c λd i=>aJ .eql .none b d i λj m=>a! (ss 11 j f) m
def aiT:=rC 1 (H [73,78,66,79,88])
def Xx:Rg:=λf h=>f 0 λa=>aZ 2 a h λb c=>a! (ss 14 (Y U 0) (ss 13 b (ss 12 a f))) c
def Xw:Rg:=λf h=>f 12 λa=>f 14 λb=>bD 6 a b h λc d=>cO 6 c d λi j=>eY 55 [Y U 0,H [],Y U 0,Y U 0,Y U 0,Y U 0] j λm n=>aV 6 m i n λ_ o=>a! (ss 7 m f) o
def Xv:Rg:=λf h=>f 1 λa=>aJ .neq .none a (H []) h λb c=>ifB b (f 0 λd=>f 7 λi=>aF 0 i c λj m=>aG j m λn o=>WZ [d,n] o λp q=>aJ .eql .none p a q λr s=>a! (ss 27 r f) s) (a! (ss 27 (K false) f) c)
def aiR:Rg:=λf h=>f 7 λa=>aF 0 a h λb c=>aG b c λd i=>a! (ss 5 (K true) (ss 4 d f)) i
def akf:Rg:=aC ahJ (aC (tT 15 a! (Out.ex 0)) (aC (bI 1 (aC Xw (aC Xv (tT 27 (aC aiR b!) a!)))) aBp))
def WR:Rg:=aC Xz (aC (aC Xy (tT 11 aiT a!)) (aC (aC Xx (bI 0 (dI akf lf))) (aC Xz b!)))
def W9:Fun:=c_ [0,1,4,5,7,11,12,13,14,15,27] f187.ntmps [.tmp 4,.tmp 5] WR
def axv:=fE2 W9 rfl
def aFm:fu 187 W9:=prX aO [] [] (aU Zr (aU aFl bC)) func187
def aje:Rg:=λf h=>a! (ss 5 (Y U 0) (ss 4 (Y U 0) f)) h
def ajd:Rg:=λf h=>f 1 λa=>XI [a] h λb c=>bJ 0 b c λd i=>bJ 1 b i λj m=>a! (ss 7 j (ss 6 d f)) m
def ajc:=r1 16 7 λa h=>aJ .neq .none a (Y U 0) h
def ajb:Rg:=λf h=>f 0 λa=>aS a h λb c=>aF 1 b c λd i=>aG d i λj m=>Dn [j] m λn o=>f 6 λp=>W9 [n,p] o λq r=>bJ 0 q r λs t=>bJ 1 q t λu v=>a! (ss 9 u (ss 8 s f)) v
def aja:=r1 29 9 λa h=>oUn .not a h
def ai9:Rg:=λf h=>f 8 λa=>a! (ss 5 (Y U 0) (ss 4 a f)) h
def asg:Rg:=aC aje (aC ajd (aC (aC ajc (tT 16 zz a!)) (aC ajb (aC (aC aja (tT 29 zz a!)) (aC ai9 b!)))))
def Xe:Fun:=c_ [0,1,4,5,6,7,8,9,16,29] f116.ntmps [.tmp 4,.tmp 5] asg
def axC:=fE2 Xe rfl
def aFt:fu 116 Xe:=prX aO [3,6] [] (aU ayw (aU abk (aU aFm bC))) func116
abbrev oI:Fun:=Ik.awj
def XE:fu 126 oI:=Ik.aHx
def an3:Rg:=λf h=>f 1 λa=>eU 3 a h λb c=>eY 55 [Y U 0,H [],Y U 0,Y U 0,Y U 0,Y U 0] c λd i=>a! (ss 4 d (ss 3 b f)) i
def an2:Rg:=λf h=>f 0 λa=>aS a h λb c=>aF 1 b c λd i=>aG d i λj m=>Dn [j] m λn o=>a! (ss 5 n f) o
def an1:Rg:=λf h=>f 5 λa=>f 3 λb=>dZ (.func 208) [] [b] h λc d=>kD [a,c] d λi j=>bD 6 a i j λm n=>cO 6 m n λo p=>f 4 λq=>aV 6 q o p λ_ r=>a! f r
def aw7:Rg:=aC an3 (aC an2 (aC an1 b!))
def abN:Fun:=c_ [0,1,3,4,5] f125.ntmps [.cell 4 55] aw7
def ay1:=fE2 abN rfl
def aHU:fu 125 abN:=prX aO [] [] (aU abk (aU vX bC)) func125
def QX:Rg:=λf h=>eY 145 [Y U 0,H [],(K false),(K false),(K false)] h λa b=>a! (ss 6 a f) b
def QW:Rg:=λf h=>f 1 λa=>abO [a,Y U 1] h λb c=>bJ 0 b c λd i=>bJ 1 b i λj m=>a! (ss 8 j (ss 7 d f)) m
def QV:=r1 18 8 λa h=>oUn .not a h
def QU:Rg:=λf h=>f 0 λa=>aS a h λb c=>aF 1 b c λd i=>aV 1 d .cZ i λ_ j=>aS a j λm n=>aF 2 m n λo p=>aV 1 o (K false) p λ_ q=>a! f q
def QT:Rg:=λf h=>f 1 λa=>f 7 λb=>bD 1 b (Y U 0) h λc d=>aG c d λi j=>Xe [a,i] j λm n=>bJ 0 m n λo p=>bJ 1 m p λq r=>a! (ss 10 q (ss 9 o f)) r
def QS:=r1 35 10 λa h=>aJ .neq .none a (Y U 0) h
def QO:Rg:=λf h=>f 0 λa=>f 1 λb=>aS b h λc d=>aF 1 c d λi j=>aG i j λm n=>f 9 λo=>abA [m,o] n λp q=>bJ 0 p q λr s=>bJ 1 p s λt u=>aS a u λv w=>aF 1 v w λx y=>aV 1 x r y λ_ z=>a! f z
def QN:Rg:=λf h=>f 0 λa=>f 2 λb=>aS a h λc d=>aF 2 c d λi j=>aV 1 i b j λ_ m=>a! f m
def NH:Rg:=λf h=>f 1 λa=>f 9 λb=>abN [a,b] h λc d=>eY 55 [Y U 0,H [],Y U 0,Y U 0,Y U 0,Y U 0] d λi j=>aV 6 i c j λ_ m=>a! (ss 11 i f) m
def NG:Rg:=λf h=>f 1 λa=>bP 9 [H []] 1 [(0,1,(H [42,32,70,76,65,71,83,32,40,92,65,110,115,119,101,114,101,100,32,92,70,108,97,103,103,101,100,32,92,68,101,108,101,116,101,100,32,92,83,101,101,110,32,92,68,114,97,102,116,41]))] h λb c=>wu [a,b] c λd i=>a! f i
def NE:Rg:=λf h=>f 1 λa=>f 0 λb=>aS b h λc d=>aF 1 c d λi j=>aG i j λm n=>Hz [m] n λo p=>aZ 2 o p λq r=>oI [q] r λs t=>bP 9 [H [],H [],H []] 3 [(0,1,(H [42])),(1,1,s),(2,1,(H [69,88,73,83,84,83]))] t λu v=>wu [a,u] v λw x=>a! f x
def ND:Rg:=λf h=>f 1 λa=>bP 9 [H []] 1 [(0,1,(H [42,32,48,32,82,69,67,69,78,84]))] h λb c=>wu [a,b] c λd i=>a! f i
def Nz:Rg:=λf h=>f 1 λa=>f 11 λb=>aF 3 b h λc d=>aG c d λi j=>oI [i] j λm n=>aJ .add .none (H [42,32,79,75,32,91,85,73,68,86,65,76,73,68,73,84,89,32]) m n λo p=>aJ .add .none o (H [93]) p λq r=>bP 9 [H []] 1 [(0,1,q)] r λs t=>wu [a,s] t λu v=>a! f v
def Ny:Rg:=λf h=>f 1 λa=>f 11 λb=>aF 4 b h λc d=>aG c d λi j=>oI [i] j λm n=>aJ .add .none (H [42,32,79,75,32,91,85,73,68,78,69,88,84,32]) m n λo p=>aJ .add .none o (H [93]) p λq r=>bP 9 [H []] 1 [(0,1,q)] r λs t=>wu [a,s] t λu v=>a! f v
def Nv:Rg:=λf h=>f 1 λa=>aS a h λb c=>aF 1 b c λd i=>aG d i λj m=>J6 [j] m λn o=>oI [n] o λp q=>aJ .add .none (H [42,32,79,75,32,91,72,73,71,72,69,83,84,77,79,68,83,69,81,32]) p q λr s=>aJ .add .none r (H [93]) s λt u=>bP 9 [H []] 1 [(0,1,t)] u λv w=>wu [a,v] w λx y=>a! f y
def Nu:=rM 100 2
def Zf:Rg:=λf h=>bK [Y U 0,H [],(K false),(K false),(K false)] [(1,1,(H [82,69,65,68,45,79,78,76,89])),(3,1,(K true))] h λa b=>f 6 λc=>aV 5 c a b λ_ d=>a! f d
def Ze:Rg:=λf h=>bK [Y U 0,H [],(K false),(K false),(K false)] [(1,1,(H [82,69,65,68,45,87,82,73,84,69])),(3,1,(K true))] h λa b=>f 6 λc=>aV 5 c a b λ_ d=>a! f d
def XC:Rg:=aC QX (aC QW (aC (aC QV (tT 18 zz a!)) (aC QU (aC QT (aC (aC QS (tT 35 zz a!)) (aC QO (aC QN (aC NH (aC NG (aC NE (aC ND (aC Nz (aC Ny (aC Nv (aC (aC Nu (tT 100 (aC Zf b!) a!)) (aC Ze b!))))))))))))))))
def ET:Fun:=c_ [0,1,2,6,7,8,9,10,11,18,35,100] f112.ntmps [.cell 6 145] XC
def aqQ:=fE3 ET rfl
def ayM:fu 112 ET:=prX aO [3,7] [] (aU aIy (aU aFt (aU aHL (aU aHU (aU atH (aU agF (aU XE (aU aoq bC)))))))) func112
def ai7:Rg:=λf h=>f 0 λa=>f 1 λb=>ET [a,b,(K false)] h λc d=>f 4 λi=>aV 5 i c d λ_ j=>a! f j
def asf:Rg:=aC aqu (aC ai7 b!)
def Xd:Fun:=c_ [0,1,4] f61.ntmps [.cell 4 145] asf
def axB:=fE2 Xd rfl
def aFs:fu 61 Xd:=prX aO [] [] (aU ayM bC) func61
def WN:=r1 5 1 λa h=>J3 [a] h
def WM:Rg:=λf h=>f 0 λa=>aS a (aK 0 h) λb _=>aF 1 b (aK 0 h) λc _=>aG c (aK 0 h) λd _=>abB [d] (aK 0 h) λi j=>f 0 λm=>aS m j λn _=>aF 1 n j λo _=>aG o j λp _=>chk (λh=>aG o h) p ( Hz [p] j λq r=>a! (ss 7 q (ss 6 i f)) r) 1 [(aK 0 h)]
def WJ:Rg:=λf h=>f 6 λa=>aZ 2 a h λb c=>a! (ss 26 (Y U 0) (ss 25 b (ss 24 a f))) c
def WI:=r2 27 26 25 λa b h=>aJ .lss .none a b h
def AL:Rg:=λf h=>f 26 λa=>f 24 λb=>bD 1 b a h λc d=>aG c d λi j=>eY 3 [Y U 0] j λm n=>aV 1 m i n λ_ o=>a! (ss 9 a (ss 10 m f)) o
def AB:Rg:=λf h=>f 5 λa=>f 10 λb=>dZ (.func 222) [] [b] h λc d=>kW [a,c] d λi j=>a! (ss 11 i f) j
def AA:Rg:=λf h=>f 11 λa=>aJ .geq .none a (Y U 0) (aK 0 h) λb _=>ifB b (f 0 λc=>aS c (aK 0 h) λd _=>aF 1 d (aK 0 h) λi _=>aG i (aK 0 h) λj _=>VH [j] (aK 0 h) λm n=>f 5 λo=>f 11 λp=>bD 8 o p n λq _=>aF 5 q n λr _=>aG r n λs _=>chk (λh=>aG r h) s ( f 7 λt=>f 9 λu=>bD 1 t u n λv _=>aG v n λw _=>chk (λh=>aG v h) w ( bK [Y U 0,Y U 0] [(0,1,m),(1,1,w)] n λx _=>kJ [s,x] n λy z=>a! (ss 53 y f) z) 1 [(aK 0 h)]) 1 [(aK 0 h)]) (a! (ss 53 (K false) f) (aK 0 h))
def WH(fr:F)(h:Hp):Out:=
 fr 8 λa=>fr 9 λb=>aJ .add .none b (Y U 1) (aK 1 h) λc _=>
 fr 7 λd=>fr 9 λi=>bD 1 d i (aK 1 h) λj _=>
 aG j (aK 1 h) λm _=>
 fr 5 λn=>fr 11 λo=>bD 8 n o (aK 1 h) λp _=>
 cO 8 p (aK 1 h) λq _=>
 bK [Y U 0,Y U 0,Y U 0,Y U 0,H [],Y U 0,.aQ,.aQ,Y U 0,Y U 0] [(0,1,c),(1,1,m),(2,8,q)] (aK 1 h) λr _=>
 IC (eH 200 [Y U 0,Y U 0,Y U 0,Y U 0,H [],Y U 0,.aQ,.aQ,Y U 0,Y U 0] 1 [(0,10,r)]) λf e=>
 bZ 200 10 120 a (e (Hp.next h)) (Hp.put (aK 1 h) (Hp.next h) (some f)) λs t=>
 a! (ss 8 s fr) t
def UR:=r1 26 26 λa h=>aJ .add .none a (Y U 1) h
def UQ:=rM 4 8
def aoB:Rg:=aC WI (aC (tT 27 a! (Out.ex 0)) (aC (bI 1 (aC AL (aC AB (aC AA (tT 53 WH a!))))) UR))
def adP:Rg:=aC ab5 (aC WN (aC WM (aC acw (aC (aC WJ (bI 0 (dI aoB lf))) (aC UQ b!)))))
def zh:Fun:=c_ [0,1,4,5,6,7,8,9,10,11,24,25,26,27,53] f134.ntmps [.tmp 4] adP
def alJ:=fE2 zh rfl
def as6:fu 134 zh:=prX aO [] [(2,[0,1,3,7,15,0,32,96,224,511,1023,2047],fK [0,16,32,51,66,80,96,112,132,146,160,176]),(8,[0,1,3,7,7,31,63,127,7,263,775,1799,3847,7,7,24583,57351,130823,262143,524287],fK [0,16,32,128,144,160,179,194,48,64,80,96,116,208,224,240,260,272,290,304]),(9,[0,0,2,0,0,24,56,0,0,384,896,2046,4094,8191,16383],fK [0,16,32,48,64,80,99,112,128,144,163,176,193,210,224])] (aU aop (aU aHM (aU agF (aU BZ (aU axh (aU aeb bC)))))) func134
abbrev agR:Fun:=Ik.awg
def aFp:fu 224 agR:=Ik.aHv
def DU:Rg:=λf h=>apc 98 h λa b=>f 0 λc=>bZ 98 2 16 a c b λd i=>a! (ss 2 d f) i
def AP:Rg:=aC Au (aC (aC Ar (tT 4 (aC Au b!) a!)) (aC DU b!))
def AU:Fun:=c_ [0,2,4] f394.ntmps [.tmp 2] AP
def agU:=fE1 AU rfl
def aot:fu 394 AU:=prX aO [] [] bC func394
def agj:=rC 3 (Y U 0)
def agi:Rg:=λf h=>f 0 λa=>aZ 2 a h λb c=>a! (ss 8 (Y U 0) (ss 7 b (ss 6 a f))) c
def agf:Rg:=λf h=>f 6 λa=>f 8 λb=>bD 1 a b h λc d=>aG c d λi j=>a! (ss 5 i f) j
def agd:=r2 14 5 3 λa b h=>aJ .neq .none a b h
def agc:=rM 2 5
def agQ:Rg:=aC KW (aC (tT 9 a! (Out.ex 0)) (aC (bI 1 (aC agf (aC agd (tT 14 (aC agc b!) a!)))) zz))
def aok:Rg:=aC ajP (aC agj (aC (aC agi (bI 0 (dI agQ lf))) zz))
def J9:Fun:=c_ [0,2,3,5,6,7,8,9,14] f397.ntmps [.tmp 2] aok
def atl:=fE1 J9 rfl
def aDs:fu 397 J9:=prX aO [7,8] [] bC func397
def acO:Rg:=λf h=>f 0 λa=>eU 98 a h λb c=>(ss 2 b f) 1 λd=>eU 98 d c λi j=>a! (ss 4 (Y U 0) (ss 3 i (ss 2 b f))) j
def acN(fr:F)(h:Hp):Out:=
 fr 2 λa=>aF 0 a (aK 1 h) λb _=>
 aG b (aK 1 h) λc _=>
 fr 3 λd=>aF 0 d (aK 1 h) λi _=>
 aG i (aK 1 h) λj _=>
 pJ [c,j] (aK 1 h) λm n=>
 fr 2 λo=>aF 1 o n λp _=>
 aG p n λq _=>chk (λh=>aG p h) q (
 fr 3 λr=>aF 1 r n λs _=>
 aG s n λt _=>chk (λh=>aG s h) t (
 pJ [q,t] n λu v=>
 IC (eH 3 [Y U 0,Y U 0] 2 [(0,1,m),(1,1,u)]) λf e=>
 J9 [(e (Hp.next h))] (Hp.put v (Hp.next h) (some f)) λw x=>
 a! (ss 4 w fr) x) 1 [(aK 1 h)]) 1 [(aK 1 h)]
def ajZ:Rg:=aC acO (aC acN b!)
def vP:Fun:=c_ [0,1,2,3,4] f396.ntmps [.tmp 4] ajZ
def aqH:=fE2 vP rfl
def XF:fu 396 vP:=prX aO [] [(1,[0,1,0,4,15,0,32,0,128,511,1023,2047,4095],fK [0,19,32,51,66,80,100,112,132,146,161,178,192])] (aU WY (aU aDs bC)) func396
def lW:FuncId->Option Fun:=nO [(396,vP)]
def qQ:Rg:=λf h=>f 9 λa=>f 1 λb=>aJ .gtr .none a b (aK 0 h) λc _=>ifB c (f 3 λd=>f 0 λi=>f 9 λj=>bD 2 i j (aK 0 h) λm _=>cO 2 m (aK 0 h) λn _=>f 0 λo=>f 9 λp=>aJ .sub .none p (Y U 1) (aK 0 h) λq _=>bD 2 o q (aK 0 h) λr _=>cO 2 r (aK 0 h) λs _=>dn lW d [n,s] (aK 0 h) λt u=>aJ .lss .none t (Y U 0) u λv _=>a! (ss 34 v f) u) (a! (ss 34 (K false) f) (aK 0 h))
def qY:Rg:=aC (aC qQ (tT 34 a! (Out.ex 2))) zz
def kU:Rg:=aC (aC kP (tT 14 a! (Out.ex 0))) (aC (bI 1 (aC qO (bI 2 (dI qY lf)))) KQ)
def lY:Rg:=aC qP (bI 0 (dI kU lf))
def jD:Fun:=c_ [0,1,2,3,8,9,14,34] f502.ntmps [] lY
def EQ:=fE4 jD rfl
def JQ:fu 502 jD:=prX aO [6,5] [(4,[0,0,3,7,15,15,15,111,239,15,15,1039,3599,7695,16383,32767,65535],fK [0,16,32,48,64,80,96,112,131,144,160,176,192,211,226,240,256])] (aU XF bC) func502
def iE:FuncId->Option Fun:=nO [(396,vP)]
def zX:Rg:=λf h=>f 4 λa=>f 0 λb=>f 2 λc=>bD 2 b c (aK 0 h) λd _=>cO 2 d (aK 0 h) λi _=>f 0 λj=>f 1 λm=>bD 2 j m (aK 0 h) λn _=>cO 2 n (aK 0 h) λo _=>dn iE a [i,o] (aK 0 h) λp q=>aJ .lss .none p (Y U 0) q λr _=>a! (ss 22 r f) q
def Dy:Rg:=aC zV (aC (aC zX (tT 22 zz a!)) (aC zT b!))
def iY:Fun:=c_ [0,1,2,3,4,10,11,22] f544.ntmps [.tmp 10,.tmp 11] Dy
def Q8:=fE5 iY rfl
def VQ:fu 544 iY:=prX aO [2,3] [(1,[0,0,0,6,14,0,0,96,224,511,1023],fK [0,16,32,48,67,80,96,112,131,146,160])] (aU XF bC) func544
def Ai:Rg:=λf h=>f 0 λa=>f 1 λb=>f 2 λc=>f 4 λd=>f 5 λi=>iY [a,b,c,d,i] h λj m=>bJ 0 j m λn o=>bJ 1 j o λp q=>a! (ss 2 p (ss 1 n f)) q
def Ah:Rg:=λf h=>f 0 λa=>f 2 λb=>f 3 λc=>f 4 λd=>f 5 λi=>iY [a,b,c,d,i] h λj m=>bJ 0 j m λn o=>bJ 1 j o λp q=>a! (ss 3 p (ss 2 n f)) q
def sQ:Rg:=aC Ae (aC Ai (aC Ah (aC Ai (aC zZ b!))))
def nU:Fun:=c_ [0,1,2,3,4,5,12] f534.ntmps [.tmp 12] sQ
def Rf(a b c d e f:V)(h:Hp):nU [a,b,c,d,e,f] h=bU prog [.tmp 12] (sQ (ss 5 f (ss 4 e (ss 3 d (ss 2 c (ss 1 b (ss 0 a T.nil)))))) h):=kR
def VS:fu 534 nU:=prX aO [] [] (aU VQ bC) func534
def sH:Rg:=λf h=>f 0 λa=>f 12 λb=>f 13 λc=>f 14 λd=>f 3 λi=>f 11 λj=>nU [a,b,c,d,j,i] h λm n=>a! (ss 13 m f) n
def wO:Rg:=aC uI (aC BI (aC uG (aC uF (aC uD (aC uz (aC (aC uw (tT 34 (aC (aC uq (tT 36 zz a!)) sH) a!)) (aC rZ (bI 0 (aC rY (tT 57 (aC rX b!) zz))))))))))
def jX:Fun:=c_ [0,1,2,3,8,9,10,11,12,13,14,34,36,55,57,60] f505.ntmps [.tmp 8,.tmp 9] wO
def H9:=fE4 jX rfl
def NR:fu 505 jX:=prX aO [8,9,10,16,17,13] [] (aU VS bC) func505
def jF:FuncId->Option Fun:=nO [(396,vP)]
def jf:Rg:=λf h=>f 9 λa=>f 2 λb=>aJ .lss .none a b (aK 0 h) λc _=>ifB c (f 3 λd=>f 0 λi=>f 9 λj=>bD 2 i j (aK 0 h) λm _=>cO 2 m (aK 0 h) λn _=>f 0 λo=>f 9 λp=>aJ .sub .none p (Y U 1) (aK 0 h) λq _=>bD 2 o q (aK 0 h) λr _=>cO 2 r (aK 0 h) λs _=>dn jF d [n,s] (aK 0 h) λt u=>aJ .lss .none t (Y U 0) u λv _=>oUn .not v u λw _=>a! (ss 36 w f) u) (a! (ss 36 (K false) f) (aK 0 h))
def jh:Rg:=aC (aC jf (tT 36 a! (Out.ex 2))) (bI 3 mP)
def nK:Rg:=aC (aC mV (tT 16 a! (Out.ex 0))) (aC (bI 1 (aC (bI 2 (dI jh lf)) (aC (aC mO (tT 41 (aC BK b!) a!)) zz))) mQ)
def jH:Rg:=aC mY (aC mX (aC (aC mW (bI 0 (dI nK lf))) zz))
def iC:Fun:=c_ [0,1,2,3,8,9,10,11,12,16,36,41,45,65,69,84,104,109,124] f507.ntmps [.tmp 8] jH
def yF:=fE4 iC rfl
def AY:fu 507 iC:=prX aO [9,10,11,12,13,14,16,17,15,18,19,20,22,23,21,24] [(5,[0,0,3,7,15,15,15,111,239,15,15,1039,3599,7695,16383,32767,65535,131071],fK [0,16,32,48,64,80,96,112,131,144,160,176,192,211,226,240,256,272])] (aU XF bC) func507
def yV:Rg:=λf h=>f 0 λa=>f 1 λb=>f 2 λc=>f 4 λd=>jD [a,b,c,d] h λi j=>a! f j
def xE:Rg:=λf h=>f 0 λa=>f 1 λb=>f 2 λc=>f 4 λd=>jX [a,b,c,d] h λi j=>bJ 0 i j λm n=>bJ 1 i n λo p=>a! (ss 14 o (ss 13 m f)) p
def xA:Rg:=λf h=>f 0 λa=>f 1 λb=>f 2 λc=>f 4 λd=>iC [a,b,c,d] h λi j=>a! (ss 80 i f) j
def qc:Rg:=bI 1 (aC pV (aC (aC pU (tT 25 (aC yV b!) a!)) (aC (aC yP (tT 32 zz a!)) (aC (aC yO (tT 39 zz a!)) (aC xE (aC (aC xu (tT 56 zz a!)) (aC (aC xq (tT 75 (aC xA (tT 80 b! a!)) a!)) zz)))))))
def qW:Rg:=aC yS (aC yR (bI 0 (dI qc lf)))
def mg:Fun:=c_ [0,1,2,3,4,10,11,12,13,14,15,16,17,18,19,20,25,32,39,56,75,80,97,125] f460.ntmps [] qW
def PD:=fE5 mg rfl
def VB:fu 460 mg:=prX aO [6,8,9,12,13,14,17,18,19,20,21,22,23,24,25,26,27,28,29,30] [] (aU JQ (aU NR (aU AY bC))) func460
def IZ:Rg:=λf h=>f 0 λa=>f 4 λb=>jk .u64 b h λc d=>FO [c] d λi j=>f 1 λm=>mg [a,Y U 0,b,i,m] j λn o=>a! f o
def Pe:Rg:=aC IY IZ
def uU:Fun:=c_ [0,1,4] f395.ntmps [] Pe
def Zw:=fE2 uU rfl
def agI:fu 395 uU:=prX aO [] [] (aU abq (aU VB bC)) func395
def afH:=r1 0 0 λa h=>AU [a] h
def afG:Rg:=λf h=>f 0 λa=>uU [a,(.func (.func 396) .nil .nil)] h λb c=>a! f c
def afF:Rg:=λf h=>f 0 λa=>aZ 2 a h λb c=>eP 2 a none (some (Y U 0)) (some b) c λd i=>a! (ss 3 d f) i
def afE:Rg:=λf h=>f 0 λa=>aZ 2 a h λb c=>a! (ss 17 (Y U 0) (ss 16 b (ss 15 a f))) c
def afD:=r2 18 17 16 λa b h=>aJ .lss .none a b h
def UM:Rg:=λf h=>f 15 λa=>f 17 λb=>bD 2 a b h λc d=>cO 2 c d λi j=>eY 98 [Y U 0,Y U 0] j λm n=>aV 2 m i n λ_ o=>a! (ss 5 m f) o
def UL:=r1 6 3 λa h=>aZ 2 a h
def UK:Rg:=λf h=>f 6 λa=>aJ .gtr .none a (Y U 0) (aK 0 h) λb _=>ifB b (f 5 λc=>aF 0 c (aK 0 h) λd _=>aG d (aK 0 h) λi _=>aJ .sub .none i (Y U 1) (aK 0 h) λj _=>f 3 λm=>f 6 λn=>aJ .sub .none n (Y U 1) (aK 0 h) λo _=>bD 2 m o (aK 0 h) λp _=>aF 1 p (aK 0 h) λq _=>aG q (aK 0 h) λr _=>aJ .leq .none j r (aK 0 h) λs _=>a! (ss 36 s f) (aK 0 h)) (a! (ss 36 (K false) f) (aK 0 h))
def afC:Rg:=λf h=>f 3 λa=>f 6 λb=>aJ .sub .none b (Y U 1) (aK 0 h) λc _=>f 3 λd=>f 6 λi=>aJ .sub .none i (Y U 1) (aK 0 h) λj _=>bD 2 d j (aK 0 h) λm _=>aF 1 m (aK 0 h) λn _=>aG n (aK 0 h) λo _=>f 5 λp=>aF 1 p (aK 0 h) λq _=>aG q (aK 0 h) λr _=>akv o r (aK 0 h) λs _=>bD 2 a c (aK 0 h) λt _=>aF 1 t (aK 0 h) λu _=>aV 1 u s (aK 0 h) λ_ v=>a! f v
def acR:Rg:=λf h=>f 3 λa=>f 5 λb=>cO 2 b h λc d=>bP 98 [Y U 0,Y U 0] 1 [(0,2,c)] d λi j=>bZ 98 2 16 a i j λm n=>a! (ss 3 m f) n
def acQ:=r1 17 17 λa h=>aJ .add .none a (Y U 1) h
def agO:Rg:=aC afD (aC (tT 18 a! (Out.ex 0)) (aC (bI 1 (aC UM (aC UL (aC UK (tT 36 afC acR))))) acQ))
def aog:Rg:=aC Au (aC afH (aC afG (aC afF (aC (aC afE (bI 0 (dI agO lf))) (aC afl b!)))))
def SV:Fun:=c_ [0,2,3,5,6,15,16,17,18,36] f327.ntmps [.tmp 2] aog
def atc:=fE1 SV rfl
def aDh:fu 327 SV:=prX aO [] [(8,[0,1,3,7,15,31,7,7,135,455,967,1991,4095,8191],fK [0,16,32,48,67,80,96,112,128,144,160,179,192,208]),(9,[0,0,2,0,0,16,56,120,248,0,512,2040,4095,8191,16383],fK [0,16,32,48,64,80,96,112,131,144,163,176,192,208,226])] (aU aot (aU agI bC)) func327
def an6:Rg:=λf h=>f 1 λa=>eU 371 a h λb c=>a! (ss 4 (Y U 0) (ss 3 b f)) c
def an5(fr:F)(h:Hp):Out:=
 fr 0 λa=>aS a (aK 1 h) λb _=>
 aF 3 b (aK 1 h) λc _=>
 aG c (aK 1 h) λd _=>
 aS d (aK 1 h) λi _=>
 aG i (aK 1 h) λj _=>
 fr 3 λm=>cO 6 m (aK 1 h) λn _=>
 IC (eH 371 [Y U 0,Y U 0,H [],H [],.aQ,.aQ] 1 [(0,6,n)]) λf e=>
 bZ 371 6 96 j (e (Hp.next h)) (Hp.put (aK 1 h) (Hp.next h) (some f)) λo p=>
 fr 0 λq=>aS q p λr _=>
 aF 3 r p λs _=>
 aG s p λt _=>chk (λh=>aG s h) t (
 aS t p λu _=>
 aV 1 u o p λ_ v=>
 a! fr v) 1 [(aK 1 h)]
def an4:Rg:=λf h=>f 0 λa=>aS a h λb c=>aF 3 b c λd i=>aG d i λj m=>aS j m λn o=>aG n o λp q=>aZ 2 p q λr s=>aJ .sub .none r (Y U 1) s λt u=>a! (ss 4 t f) u
def aw8:Rg:=aC an6 (aC an5 (aC an4 b!))
def CJ:Fun:=c_ [0,1,3,4] f402.ntmps [.tmp 4] aw8
def ay2:=fE2 CJ rfl
def abr:fu 402 CJ:=prX aO [] [(1,[0,1,3,7,0,16,48,112,240,496,0,1024,4080,8191,16383],fK [64,80,96,115,128,147,163,177,194,0,16,32,52,208,226])] bC func402
def adL:Rg:=λf h=>f 1 λa=>f 0 λb=>aS b h λc d=>aF 2 c d λi j=>aG i j λm n=>aZ 2 m n λo p=>agR [a,o] p λq r=>bJ 0 q r λs t=>bJ 1 q t λu v=>a! (ss 7 u (ss 6 s f)) v
def adJ:Rg:=λf h=>f 0 λa=>aS a h λb c=>aF 2 b c λd i=>aG d i λj m=>aZ 2 j m λn o=>a! (ss 26 (Y U 0) (ss 25 n (ss 24 j f))) o
def adH:Rg:=λf h=>f 26 λa=>f 24 λb=>bD 1 b a h λc d=>aG c d λi j=>a! (ss 10 i (ss 9 a f)) j
def adG:Rg:=λf h=>f 6 λa=>f 9 λb=>aJ .add .none b (Y U 1) h λc d=>ahL [a,c] d λi j=>ifB i (f 10 λm=>aJ .gtr .none m (Y U 0) j λn o=>a! (ss 38 n f) o) (a! (ss 38 (K false) f) j)
def adF:Rg:=λf h=>f 8 λa=>f 10 λb=>bK [Y U 0,Y U 0] [(0,1,b),(1,1,b)] h λc d=>bP 98 [Y U 0,Y U 0] 1 [(0,2,c)] d λi j=>bZ 98 2 16 a i j λm n=>a! (ss 8 m f) n
def adD:Rg:=λf h=>f 8 λa=>SV [a] (aK 0 h) λb c=>f 0 λd=>f 0 λi=>aS i c λj _=>aF 1 j c λm _=>aG m c λn _=>chk (λh=>aG m h) n ( bK [Y U 0,Y U 0,H [],H [],.aQ,.aQ] [(0,1,(Y U 14)),(1,1,n),(4,1,b)] c λo _=>CJ [d,o] c λp q=>f 7 λr=>aJ .eql .none r (Y U 0) q λs _=>a! (ss 5 s (ss 4 p f)) q) 1 [(aK 0 h)]
def ad3:Rg:=aC WI (aC (tT 27 a! (Out.ex 0)) (aC (bI 1 (aC adH (aC adG (tT 38 adF a!)))) UR))
def XD:Rg:=aC Xz (aC adL (aC acw (aC (aC adJ (bI 0 (dI ad3 lf))) (aC adD b!))))
def zB:Fun:=c_ [0,1,4,5,6,7,8,9,10,24,25,26,27,38] f400.ntmps [.tmp 4,.tmp 5] XD
def aqR:=fE2 zB rfl
def ayN:fu 400 zB:=prX aO [] [(9,[0,0,2,6,14,0,32,126,255,0,512,511,4095],fK [80,98,0,16,32,48,68,112,130,144,160,176,192])] (aU aFp (aU aNl (aU aDh (aU abr bC)))) func400
abbrev Xh:Fun:=Ik.akY
def aFz:fu 401 Xh:=Ik.aHt
def ajE:=rC 6 (Y U 0)
def ajD:Rg:=λf h=>f 0 λa=>f 1 λb=>f 2 λc=>bK [Y U 0,Y U 0,H [],H [],.aQ,.aQ] [(0,1,b),(5,1,c)] h λd i=>CJ [a,d] i λj m=>a! (ss 6 j f) m
def aso:Rg:=aC ajE (aC ajD b!)
def xI:Fun:=c_ [0,1,2,6] f331.ntmps [.tmp 6] aso
def axI:=fE3 xI rfl
def agM:fu 331 xI:=prX aO [] [] (aU abr bC) func331
def aoa:Rg:=λf h=>a! (ss 3 (K false) (ss 2 (Y U 0) f)) h
def an9:Rg:=λf h=>f 0 λa=>xI [a,Y U 1,.aQ] h λb c=>a! (ss 3 (K true) (ss 2 b f)) c
def axa:Rg:=aC aoa (aC an9 b!)
def VN:Fun:=c_ [0,2,3] f461.ntmps [.tmp 2,.tmp 3] axa
def ay4:=fE1 VN rfl
def aHX:fu 461 VN:=prX aO [] [] (aU agM bC) func461
def an8:Rg:=λf h=>f 0 λa=>eU 431 a h λb c=>a! (ss 2 .fJ (ss 1 b f)) c
def an7:Rg:=λf h=>f 1 λa=>dZ (.func 511) [] [a] h λb c=>a! (ss 2 b f) c
def aw9:Rg:=aC an8 (aC an7 b!)
def VL:Fun:=c_ [0,1,2] f463.ntmps [.tmp 2] aw9
def ay3:=fE1 VL rfl
def aHV:fu 463 VL:=prX aO [] [] bC func463
def ajN:Rg:=λf h=>a! (ss 4 (K false) (ss 3 (Y U 0) f)) h
def ajM:Rg:=λf h=>f 0 λa=>f 1 λb=>aG b h λc d=>bK [Y U 0,Y U 0,H [],H [],.aQ,.aQ] [(0,1,(Y U 6)),(3,1,c)] d λi j=>CJ [a,i] j λm n=>a! (ss 4 (K true) (ss 3 m f)) n
def asr:Rg:=aC ajN (aC ajM b!)
def CP:Fun:=c_ [0,1,3,4] f518.ntmps [.tmp 3,.tmp 4] asr
def axK:=fE2 CP rfl
def asz:fu 518 CP:=prX aO [] [] (aU abr bC) func518
def ajs:Rg:=λf h=>a! (ss 3 (K false) (ss 2 (H []) f)) h
def ajr(fr:F)(h:Hp):Out:=
 fr 0 λa=>aS a h λb c=>
 aF 0 b c λd i=>
 aG d i λj m=>
 aZ 2 j m λn o=>
 aJ .eql .none n (Y U 0) o λp q=>
 ifB p (a! (ss 20 (K true) fr) q) (aS a q λr s=>
 aF 0 r s λt u=>
 aG t u λv w=>
 bD 3 v (Y U 0) w λx y=>
 aF 0 x y λz e=>
 aG z e λf g=>
 aJ .eql .none f (Y U 3) g λk l=>
 a! (ss 20 k fr) l)
def ajq:Rg:=λf h=>f 0 λa=>aS a h λb c=>aF 0 b c λd i=>aG d i λj m=>bD 3 j (Y U 0) m λn o=>aF 1 n o λp q=>aG p q λr s=>a! (ss 4 r f) s
def ajp:Rg:=λf h=>f 0 λa=>aS a h λb c=>aF 0 b c λd i=>aG d i λj m=>eP 3 j (some (Y U 1)) none none m λn o=>aS a o λp q=>aF 0 p q λr s=>aV 1 r n s λ_ t=>a! f t
def ajo:Rg:=λf h=>f 4 λa=>a! (ss 3 (K true) (ss 2 a f)) h
def asj:Rg:=aC ajs (aC (aC ajr (tT 20 zz a!)) (aC ajq (aC ajp (aC ajo b!))))
def Xg:Fun:=c_ [0,2,3,4,20] f510.ntmps [.tmp 2,.tmp 3] asj
def axF:=fE1 Xg rfl
def aFw:fu 510 Xg:=prX aO [2] [] bC func510
def aga:Rg:=λf h=>f 0 λa=>Xg [a] h λb c=>bJ 0 b c λd i=>bJ 1 b i λj m=>a! (ss 6 j (ss 5 d f)) m
def af9:Rg:=λf h=>f 0 λa=>f 1 λb=>aG b h λc d=>f 5 λi=>bK [Y U 0,Y U 0,H [],H [],.aQ,.aQ] [(0,1,(Y U 12)),(2,1,c),(3,1,i)] d λj m=>CJ [a,j] m λn o=>f 6 λp=>a! (ss 4 p (ss 3 n f)) o
def aoj:Rg:=aC ajN (aC aga (aC af9 b!))
def J8:Fun:=c_ [0,1,3,4,5,6] f517.ntmps [.tmp 3,.tmp 4] aoj
def atj:=fE2 J8 rfl
def aDr:fu 517 J8:=prX aO [] [] (aU aFw (aU abr bC)) func517
class InK where
 F:Fun
 ok:fu 330 F
section
variable [InK]
abbrev Xi:Fun:=InK.F
def aFA:fu 330 Xi:=InK.ok
def WQ:FuncId->Option Fun:=nO [(331,xI),(330,Xi),(518,CP)]
def ajG:Rg:=λf h=>f 1 λa=>aG a h λb c=>f 0 λd=>dn WQ b [d] c λi j=>bJ 0 i j λm n=>bJ 1 i n λo p=>a! (ss 6 o (ss 5 m f)) p
def ajF:Rg:=λf h=>f 0 λa=>f 5 λb=>bP 3 [Y U 0] 1 [(0,1,b)] h λc d=>xI [a,Y U 3,c] d λi j=>f 6 λm=>a! (ss 4 m (ss 3 i f)) j
def asq:Rg:=aC ajN (aC ajG (aC ajF b!))
def CO:Fun:=c_ [0,1,3,4,5,6] f511.ntmps [.tmp 3,.tmp 4] asq
def axJ:=fE2 CO rfl
def asy:fu 511 CO:=prX aO [] [] (aU agM (aU aFA (aU asz bC))) func511
def ar7:FuncId->Option Fun:=nO [(463,VL),(511,CO)]
def ajt:Rg:=λf h=>VL [(.func (.func 330) .nil .nil)] h λa b=>f 0 λc=>dn ar7 a [c] b λd i=>bJ 0 d i λj m=>bJ 1 d m λn o=>a! (ss 3 n (ss 2 j f)) o
def asl:Rg:=aC aoa (aC ajt b!)
def PI:Fun:=c_ [0,2,3] f468.ntmps [.tmp 2,.tmp 3] asl
def axG:=fE1 PI rfl
def aFx:fu 468 PI:=prX aO [] [] (aU aHV (aU asy bC)) func468
def FI:FuncId->Option Fun:=nO [(400,zB),(401,Xh),(95,uY),(461,VN),(468,PI),(511,CO),(517,J8),(518,CP)]
def aaY:Rg:=λf h=>f 0 λa=>aS a h λb c=>aF 0 b c λd i=>aG d i λj m=>aZ 2 j m λn o=>aJ .eql .none n (Y U 0) o λp q=>a! (ss 11 p f) q
def aaX:Rg:=λf h=>f 0 λa=>aS a h λb c=>aF 0 b c λd i=>aG d i λj m=>bD 3 j (Y U 0) m λn o=>cO 3 n o λp q=>eY 149 [Y U 0,H [],.aQ] q λr s=>aV 3 r p s λ_ t=>a! (ss 4 r f) t
def aaV:Rg:=λf h=>f 4 λa=>aF 0 a h λb c=>aG b c λd i=>aJ .eql .none d (Y U 3) i λj m=>a! (ss 26 j f) m
def aaU:Rg:=λf h=>f 4 λa=>aF 0 a h λb c=>aG b c λd i=>aJ .neq .none d (Y U 1) i λj m=>a! (ss 36 j f) m
def aaT(fr:F)(h:Hp):Out:=
 fr 4 λa=>aF 1 a h λb c=>
 aG b c λd i=>
 aJ .neq .none d (H []) i λj m=>
 ifB j (aF 1 a m λn o=>
 aG n o λp q=>
 mF p (Y U 0) q λr s=>
 aJ .eql .none r (Y .u8 42) s λt u=>
 ifB t (a! (ss 40 (K true) fr) u) (aF 1 a u λv w=>
 aG v w λx y=>
 mF x (Y U 0) y λz f=>
 aJ .geq .none z (Y .u8 48) f λg e=>
 ifB g (aF 1 a e λk l=>
 aG k l λB C=>
 mF B (Y U 0) C λE G=>
 aJ .leq .none E (Y .u8 57) G λI J=>
 a! (ss 40 I fr) J) (a! (ss 40 (K false) fr) e))) (a! (ss 40 (K false) fr) m)
def ajL:Rg:=λf h=>f 0 λa=>f 4 λb=>aF 1 b h λc d=>aG c d λi j=>zB [a,i] j λm n=>bJ 0 m n λo p=>bJ 1 m p λq r=>a! (ss 3 q (ss 2 o f)) r
def ajK:Rg:=λf h=>Xh [] (aK 0 h) λa b=>f 4 λc=>aF 1 c b λd _=>aG d b λi _=>chk (λh=>aG d h) i ( uY [i] b λj m=>Uk .string false .fJ a j m λn _=>a! (ss 5 n f) m) 1 [(aK 0 h)]
def ajJ:=r1 74 5 λa h=>aJ .eql .func a .fJ h
def ajI:Rg:=λf h=>f 5 λa=>f 0 λb=>dn FI a [b] h λc d=>bJ 0 c d λi j=>bJ 1 c j λm n=>a! (ss 3 m (ss 2 i f)) n
def alx:Rg:=aC aoa (aC (aC aaY (tT 11 zz a!)) (aC aaX (aC ajp (aC (bI 0 (aC aaV (tT 26 zz (aC aaU (tT 36 zz (aC aaT (tT 40 (aC ajL b!) a!))))))) (aC ajK (aC (aC ajJ (tT 74 zz a!)) (aC ajI b!)))))))
def qf:Fun:=c_ [0,2,3,4,5,11,26,36,40,74] f330.ntmps [.tmp 2,.tmp 3] alx
def akg:=fE1 qf rfl
def aHW:fu 330 qf:=prX aO [2,6,8,13] [(11,[0,0,2,7,15,31],fK [2,16,36,50,67,80])] (aU ayN (aU aFz (aU Zr (aU aHX (aU aFx (aU asy (aU aDr (aU asz bC)))))))) func330
def lvK:Nat->id InK
 |0=>⟨λ_ _=>.bad,λ_ _ _ _ _ _ _ e=>by cases e⟩
 |n+1=>⟨@qf (lvK n),@aHW (lvK n)⟩
abbrev PK:Fun:= @InK.F (lvK 2)
def aFB:fu 330 PK:= @InK.ok (lvK 2)
def UU:Rg:=λf h=>f 0 λa=>aS a h λb c=>aF 0 b c λd i=>aG d i λj m=>aZ 2 j m λn o=>aJ .gtr .none n (Y U 0) o λp q=>a! (ss 12 p f) q
def af6:Rg:=λf h=>f 0 λa=>PK [a] h λb c=>bJ 0 b c λd i=>bJ 1 b i λj m=>a! (ss 6 j (ss 5 d f)) m
def af5:=r1 19 6 λa h=>oUn .not a h
def af4:Rg:=λf h=>f 4 λa=>f 5 λb=>bP 3 [Y U 0] 1 [(0,1,b)] h λc d=>bZ 3 1 8 a c d λi j=>a! (ss 4 i f) j
def af2:Rg:=λf h=>f 0 λa=>f 4 λb=>xI [a,Y U 1,b] h λc d=>aZ 2 b d λi j=>aJ .gtr .none i (Y U 0) j λm n=>a! (ss 3 m (ss 2 c f)) n
def VE:Rg:=aC (aC UU (tT 12 a! (Out.ex 0))) (bI 1 (aC af6 (aC (aC af5 (tT 19 zz a!)) af4)))
def abj:Rg:=aC aoa (aC ab5 (aC (bI 0 (dI VE lf)) (aC af2 b!)))
def Tt:Fun:=c_ [0,2,3,4,5,6,12,19] f227.ntmps [.tmp 2,.tmp 3] abj
def ati:=fE1 Tt rfl
def aDq:fu 227 Tt:=prX aO [5] [] (aU aFB (aU agM bC)) func227
def ajC:Rg:=λf h=>a! (ss 8 (Y U 0) (ss 7 (K false) (ss 6 .aQ f))) h
def ajB:Rg:=λf h=>eY 195 [.aQ] h λa b=>a! (ss 9 a f) b
def ajA:Rg:=λf h=>eY 4 [(K false)] h λa b=>aV 1 a (K false) b λ_ c=>a! (ss 10 a f) c
def ajz:Rg:=λf h=>f 0 λa=>f 1 λb=>f 2 λc=>f 9 λd=>f 10 λi=>bK [.aQ,Y U 0,.aQ,.cZ,.cZ] [(0,1,a),(1,1,b),(2,1,c),(3,1,d),(4,1,i)] h λj m=>eU 298 j m λn o=>a! (ss 11 n f) o
def ajy:Rg:=λf h=>f 11 λa=>Tt [a] h λb c=>bJ 0 b c λd i=>bJ 1 b i λj m=>a! (ss 13 j f) m
def ajx:=r1 24 13 λa h=>oUn .not a h
def ajw:Rg:=λf h=>f 9 λa=>aG a h λb c=>aZ 2 b c λd i=>aJ .gtr .none d (Y U 40) i λj m=>a! (ss 27 j f) m
def ajv:Rg:=λf h=>f 9 λa=>aG a (aK 0 h) λb _=>f 10 λc=>aG c (aK 0 h) λd _=>a! (ss 8 (Y U 0) (ss 7 d (ss 6 b f))) (aK 0 h)
def asn:Rg:=aC ajC (aC ajB (aC ajA (aC ajz (aC ajy (aC (bI 0 (aC ajx (tT 24 zz (aC ajw (tT 27 zz a!))))) (aC ajv b!))))))
def HY:Fun:=c_ [0,1,2,6,7,8,9,10,11,13,24,27] f137.ntmps [.tmp 6,.tmp 7,.tmp 8] asn
def axH:=fE3 HY rfl
def aFy:fu 137 HY:=prX aO [6,8] [(9,[0,0,1,7,15],fK [3,19,32,48,64])] (aU aDq bC) func137
def afP:Rg:=λf h=>f 0 λa=>aZ 2 a h λb c=>aJ .gtr .none b (Y U 40) c λd i=>a! (ss 11 d f) i
def afO:Rg:=λf h=>f 0 λa=>aZ 2 a h λb c=>xR 3 8 [Y U 0] b b c λd i=>a! (ss 3 d f) i
def afL:Rg:=λf h=>f 17 λa=>f 15 λb=>bD 6 b a h λc d=>cO 6 c d λi j=>eY 371 [Y U 0,Y U 0,H [],H [],.aQ,.aQ] j λm n=>aV 6 m i n λ_ o=>a! (ss 4 a (ss 5 m f)) o
def afK:Rg:=λf h=>f 5 λa=>aF 0 a h λb c=>aG b c λd i=>aJ .lss .none d (Y U 1) i λj m=>ifB j (a! (ss 29 (K true) f) m) (aF 0 a m λn o=>aG n o λp q=>aJ .gtr .none p (Y U 16) q λr s=>a! (ss 29 r f) s)
def afJ:Rg:=λf h=>f 5 λa=>aF 5 a h λb c=>aG b c λd i=>aZ 2 d i λj m=>a! (ss 33 (Y U 0) (ss 32 j (ss 31 d f))) m
def ac3:=r2 34 33 32 λa b h=>aJ .lss .none a b h
def ac2:Rg:=λf h=>f 31 λa=>f 33 λb=>bD 1 a b h λc d=>aG c d λi j=>a! (ss 7 i f) j
def ac1:Rg:=λf h=>f 7 λa=>aJ .lss .none a (Y U 0) h λb c=>ifB b (a! (ss 43 (K true) f) c) (f 4 λd=>aJ .geq .none a d c λi j=>a! (ss 43 i f) j)
def ac0:Rg:=λf h=>f 3 λa=>f 7 λb=>bD 1 a b h λc d=>aG c d λi j=>aJ .add .none i (Y U 1) j λm n=>bD 1 a b n λo p=>aV 1 o m p λ_ q=>a! f q
def acZ:=r1 33 33 λa h=>aJ .add .none a (Y U 1) h
def acX:=rC 8 (Y U 0)
def QC:Rg:=λf h=>f 8 λa=>aJ .add .none a (Y U 1) h λb c=>f 0 λd=>aZ 2 d c λi j=>aJ .lss .none b i j λm n=>a! (ss 56 m f) n
def acV:Rg:=λf h=>f 3 λa=>f 8 λb=>bD 1 a b h λc d=>aG c d λi j=>aJ .neq .none i (Y U 1) j λm n=>a! (ss 63 m f) n
def acU:=rC 2 (K true)
def adX:Rg:=aC ac3 (aC (tT 34 a! (Out.ex 2)) (aC (bI 3 (aC ac2 (aC (aC ac1 (tT 43 zz a!)) ac0))) acZ))
def agP:Rg:=aC afD (aC (tT 18 a! (Out.ex 0)) (aC (bI 1 (aC afL (aC (aC afK (tT 29 zz a!)) (aC afJ (bI 2 (dI adX lf)))))) acQ))
def adW:Rg:=aC (aC QC (tT 56 a! (Out.ex 4))) (aC (bI 5 (aC acV (tT 63 zz a!))) KQ)
def abg:Rg:=aC aiG (aC (aC afP (tT 11 zz a!)) (aC afO (aC (aC afE (bI 0 (dI agP lf))) (aC (aC acX (bI 4 (dI adW lf))) (aC acU b!)))))
def Td:Fun:=c_ [0,2,3,4,5,7,8,11,15,16,17,18,29,31,32,33,34,43,56,63] f228.ntmps [.tmp 2] abg
def atd:=fE1 Td rfl
def aDi:fu 228 Td:=prX aO [2,8,13,21] [] bC func228
abbrev aoK:Fun:=Ik.ak0
def aDp:fu 105 aoK:=Ik.aHz
def ac6:Rg:=λf h=>f 0 λa=>eU 40 a h λb c=>a! (ss 2 .cZ (ss 1 b f)) c
def ac5:Rg:=λf h=>f 1 λa=>aF 2 a h λb c=>aG b c λd i=>aF 2 a i λj m=>aG j m λn o=>aZ 1 n o λp q=>aoK [d,Y U 0,p] q λr s=>bJ 0 r s λt u=>bJ 1 r u λv w=>a! (ss 4 v (ss 3 t f)) w
def ac4(fr:F)(h:Hp):Out:=
 fr 1 λa=>cO 8 a (aK 1 h) λb _=>
 fr 3 λc=>fr 1 λd=>aF 2 d (aK 1 h) λi _=>
 aG i (aK 1 h) λj _=>
 fr 4 λm=>Bj j (some m) none (aK 1 h) λn _=>
 bK [Y U 0,Y U 0,H [],Y U 0,.aQ,.aQ,Y U 0,Y U 0,.aQ,H []] [(0,8,b),(8,1,c),(9,1,n)] (aK 1 h) λo _=>
 IC (akX 373 o) λf e=>
 a! (ss 2 (e (Hp.next h)) fr) (Hp.put (aK 1 h) (Hp.next h) (some f))
def aj1:Rg:=aC ac6 (aC ac5 (aC ac4 b!))
def Oq:Fun:=c_ [0,1,2,3,4] f229.ntmps [.tmp 2] aj1
def aqJ:=fE1 Oq rfl
def ayE:fu 229 Oq:=prX aO [] [(2,[0,0,0,4,0,28,63,127,255],fK [3,16,32,51,64,80,96,113,128])] (aU aDp bC) func229
abbrev aBL:Fun:=Ik.akZ
def aNk:fu 335 aBL:=Ik.aHu
def ac8:Rg:=λf h=>f 0 λa=>eU 263 a h λb c=>a! (ss 3 (K false) (ss 2 b f)) c
def ac7:Rg:=λf h=>f 2 λa=>aF 0 a (aK 0 h) λb _=>aG b (aK 0 h) λc _=>uY [c] (aK 0 h) λd i=>f 1 λj=>aF 2 j i λm _=>aG m i λn _=>chk (λh=>aG m h) n ( uY [n] i λo p=>aJ .eql .none d o p λq _=>ifB q (f 2 λr=>aF 1 r p λs _=>aG s p λt _=>f 1 λu=>aF 3 u p λv _=>aG v p λw _=>aBL [t,w] p λx y=>a! (ss 3 x f) y) (a! (ss 3 (K false) f) p)) 1 [(aK 0 h)]
def aj2:Rg:=aC ac8 (aC ac7 b!)
def ER:Fun:=c_ [0,1,2,3] f338.ntmps [.tmp 3] aj2
def aqK:=fE2 ER rfl
def ayF:fu 338 ER:=prX aO [] [(1,[0,1,3,0,8,31,63,127,255,511,255,1279,4095,8191,16383],fK [0,19,34,48,68,82,96,112,128,147,160,179,194,208,224])] (aU Zr (aU aNk bC)) func338
def rO:FuncId->Option Fun:=nO [(338,ER)]
def GK:Rg:=λf h=>f 1 λa=>f 0 λb=>f 5 λc=>bD 2 b c h λd i=>cO 2 d i λj m=>dn rO a [j] m λn o=>a! (ss 16 n f) o
def Hw:Rg:=aC KW (aC (tT 9 a! (Out.ex 0)) (aC (bI 1 (aC KU (aC GK (tT 16 (aC KR b!) a!)))) KQ))
def zK:Rg:=aC awX (aC (aC KX (bI 0 (dI Hw lf))) (aC KP b!))
def rU:Fun:=c_ [0,1,4,5,7,8,9,16] f405.ntmps [.tmp 4] zK
def XL:=fE2 rU rfl
def ad9:fu 405 rU:=prX aO [] [] (aU ayF bC) func405
def BN:Rg:=λf h=>f 0 λa=>f 1 λb=>rU [a,b] h λc d=>aJ .geq .none c (Y U 0) d λi j=>a! (ss 4 i f) j
def EJ:Rg:=aC afk (aC BN b!)
def oK:Fun:=c_ [0,1,4] f336.ntmps [.tmp 4] EJ
def Tc:=fE2 oK rfl
def XH:fu 336 oK:=prX aO [] [] (aU ad9 bC) func336
def Ns:Rg:=λf h=>f 0 λa=>eU 106 a h λb c=>a! (ss 4 (K false) (ss 3 b f)) c
def Nr:Rg:=λf h=>f 3 λa=>aF 0 a h λb c=>aG b c λd i=>f 1 λj=>aG j i λm n=>aJ .eql .none d m n λo p=>ifB o (f 2 λq=>aG q p λr s=>dZ (.func 407) [] [a] s λt u=>kM [r,t] u λv w=>a! (ss 4 v f) w) (a! (ss 4 (K false) f) p)
def U7:Rg:=aC Ns (aC Nr b!)
def J7:Fun:=c_ [0,1,2,3,4] f406.ntmps [.tmp 4] U7
def aoJ:=fE3 J7 rfl
def axm:fu 406 J7:=prX aO [] [] (aU EK bC) func406
def yw:FuncId->Option Fun:=nO [(406,J7)]
def Es:Rg:=λf h=>f 1 λa=>f 0 λb=>f 5 λc=>bD 2 b c h λd i=>cO 2 d i λj m=>dn yw a [j] m λn o=>a! (ss 16 n f) o
def EM:Rg:=aC KW (aC (tT 9 a! (Out.ex 0)) (aC (bI 1 (aC KU (aC Es (tT 16 (aC KR b!) a!)))) KQ))
def yA:Rg:=aC awX (aC (aC KX (bI 0 (dI EM lf))) (aC KP b!))
def qB:Fun:=c_ [0,1,4,5,7,8,9,16] f310.ntmps [.tmp 4] yA
def VX:=fE2 qB rfl
def abn:fu 310 qB:=prX aO [] [] (aU axm bC) func310
def Ap:Rg:=λf h=>f 0 λa=>f 1 λb=>qB [a,b] h λc d=>aJ .geq .none c (Y U 0) d λi j=>a! (ss 4 i f) j
def DC:Rg:=aC afk (aC Ap b!)
def nX:Fun:=c_ [0,1,4] f210.ntmps [.tmp 4] DC
def Rj:=fE2 nX rfl
def VU:fu 210 nX:=prX aO [] [] (aU abn bC) func210
def acT:Rg:=λf h=>f 1 λa=>eU 3 a h λb c=>(ss 4 b f) 2 λd=>eU 96 d c λi j=>a! (ss 6 (K false) (ss 5 i (ss 4 b f))) j
def acS:Rg:=λf h=>f 0 λa=>aS a h λb c=>aF 0 b c λd i=>aF 5 d i λj m=>aG j m λn o=>f 4 λp=>f 5 λq=>dZ (.func 406) [] [p,q] o λr s=>nX [n,r] s λt u=>a! (ss 6 t f) u
def aj0:Rg:=aC acT (aC acS b!)
def Oo:Fun:=c_ [0,1,2,4,5,6] f339.ntmps [.tmp 6] aj0
def aqI:=fE3 Oo rfl
def ayD:fu 339 Oo:=prX aO [] [] (aU VU bC) func339
class InH where
 F:Fun
 ok:fu 230 F
variable [InH]
abbrev zA:Fun:=InH.F
def ayH:fu 230 zA:=InH.ok
def adb:Rg:=λf h=>f 1 λa=>aG a h λb c=>f 2 λd=>aG d c λi j=>f 0 λm=>zA [b,i,m] j λn o=>a! (ss 4 n f) o
def aj6:Rg:=aC afk (aC adb b!)
def vS:Fun:=c_ [0,1,2,4] f332.ntmps [.tmp 4] aj6
def aqM:=fE3 vS rfl
def akb:fu 332 vS:=prX aO [] [] (aU ayH bC) func332
def ajR:FuncId->Option Fun:=nO [(332,vS)]
def ac9:Rg:=λf h=>f 1 λa=>aG a h λb c=>f 0 λd=>dn ajR b [d] c λi j=>oUn .not i j λm n=>a! (ss 3 m f) n
def aj3:Rg:=aC YU (aC ac9 b!)
def ES:Fun:=c_ [0,1,3] f333.ntmps [.tmp 3] aj3
def aqL:=fE2 ES rfl
def ayG:fu 333 ES:=prX aO [] [] (aU akb bC) func333
def qj:FuncId->Option Fun:=nO [(332,vS),(333,ES)]
def Ky:Rg:=λf h=>f 1 λa=>f 0 λb=>f 5 λc=>bD 1 b c h λd i=>aG d i λj m=>dn qj a [j] m λn o=>a! (ss 16 n f) o
def Lr:Rg:=aC KW (aC (tT 9 a! (Out.ex 0)) (aC (bI 1 (aC KU (aC Ky (tT 16 (aC KR b!) a!)))) KQ))
def DW:Rg:=aC awX (aC (aC KX (bI 0 (dI Lr lf))) (aC KP b!))
def vY:Fun:=c_ [0,1,4,5,7,8,9,16] f103.ntmps [.tmp 4] DW
def abE:=fE2 vY rfl
def ahW:fu 103 vY:=prX aO [] [] (aU akb (aU ayG bC)) func103
def Ez:Rg:=λf h=>f 0 λa=>f 1 λb=>vY [a,b] h λc d=>aJ .geq .none c (Y U 0) d λi j=>a! (ss 4 i f) j
def JK:Rg:=aC afk (aC Ez b!)
def mr:Fun:=c_ [0,1,4] f46.ntmps [.tmp 4] JK
def VY:=fE2 mr rfl
def abo:fu 46 mr:=prX aO [] [] (aU ahW bC) func46
def wL:Rg:=λf h=>f 0 λa=>eU 301 a h λb c=>(ss 3 b f) 1 λd=>eU 195 d c λi j=>a! (ss 6 (K false) (ss 4 i (ss 3 b f))) j
def wK:Rg:=λf h=>f 4 λa=>aG a h λb c=>f 2 λd=>bD 6 b d c λi j=>cO 6 i j λm n=>eY 371 [Y U 0,Y U 0,H [],H [],.aQ,.aQ] n λo p=>aV 6 o m p λ_ q=>a! (ss 7 o f) q
def wJ:Rg:=λf h=>f 3 λa=>f 4 λb=>dZ (.func 332) [] [a,b] h λc d=>eY 103 [.fJ] d λi j=>aV 1 i c j λ_ m=>a! (ss 8 i f) m
def wI:Rg:=λf h=>f 7 λa=>aF 0 a h λb c=>aG b c λd i=>a! (ss 15 d f) i
def wH:=r1 16 15 λa h=>aJ .eql .none a (Y U 1) h
def afS:Rg:=λf h=>f 7 λa=>aF 5 a h λb c=>aG b c λd i=>f 8 λj=>dZ (.func 333) [] [j] i λm n=>mr [d,m] n λo p=>oUn .not o p λq r=>a! (ss 6 q f) r
def BU:=r1 23 15 λa h=>aJ .eql .none a (Y U 2) h
def BR:=r1 29 15 λa h=>aJ .eql .none a (Y U 3) h
def afR:Rg:=λf h=>f 7 λa=>aF 5 a h λb c=>aG b c λd i=>f 8 λj=>aG j i λm n=>mr [d,m] n λo p=>oUn .not o p λq r=>a! (ss 6 q f) r
def E8:=r1 36 15 λa h=>aJ .eql .none a (Y U 4) h
def EZ:=r1 36 15 λa h=>aJ .eql .none a (Y U 5) h
def EY:=r1 46 15 λa h=>aJ .eql .none a (Y U 6) h
def adk:Rg:=λf h=>f 3 λa=>aG a (aK 0 h) λb _=>aS b (aK 0 h) λc _=>aF 0 c (aK 0 h) λd _=>aF 4 d (aK 0 h) λi _=>aG i (aK 0 h) λj _=>f 7 λm=>aF 3 m (aK 0 h) λn _=>aG n (aK 0 h) λo _=>rW [j,o] (aK 0 h) λp q=>a! (ss 6 p f) q
def QI:=r1 56 15 λa h=>aJ .eql .none a (Y U 7) h
def QH:=r1 66 15 λa h=>aJ .eql .none a (Y U 8) h
def QG:=r1 76 15 λa h=>aJ .eql .none a (Y U 9) h
def QF:=r1 87 15 λa h=>aJ .eql .none a (Y U 10) h
def QE:=r1 98 15 λa h=>aJ .eql .none a (Y U 11) h
def QD:=r1 115 15 λa h=>aJ .eql .none a (Y U 12) h
def adi:Rg:=λf h=>f 3 λa=>aG a h λb c=>aS b c λd i=>aF 8 d i λj m=>aG j m λn o=>f 7 λp=>dZ (.func 338) [] [p] o λq r=>oK [n,q] r λs t=>a! (ss 6 s f) t
def adh:=r1 123 15 λa h=>aJ .eql .none a (Y U 13) h
def adg:=r1 132 15 λa h=>aJ .eql .none a (Y U 14) h
def adf:Rg:=λf h=>f 3 λa=>aG a h λb c=>f 7 λd=>aF 1 d c λi j=>aG i j λm n=>aF 4 d n λo p=>aG o p λq r=>Oo [b,m,q] r λs t=>a! (ss 6 s f) t
def yD:Rg:=aC wL (aC wK (aC wJ (aC (aC wI (bI 0 (aC wH (tT 16 (aC afS b!) (aC BU (tT 23 zz (aC BR (tT 29 (aC afR b!) (aC (aC E8 (tT 36 a! EZ)) (tT 36 zz (aC EY (tT 46 (aC adk b!) (aC QI (tT 56 zz (aC QH (tT 66 zz (aC QG (tT 76 zz (aC QF (tT 87 zz (aC QE (tT 98 zz (aC QD (tT 115 (aC adi b!) (aC adh (tT 123 zz (aC adg (tT 132 (aC adf b!) zz)))))))))))))))))))))))))))) zz)))
def Tf:Fun:=c_ [0,1,2,3,4,6,7,8,15,16,23,29,36,46,56,66,76,87,98,115,123,132,140] f230.ntmps [.tmp 6] yD
def ate:=fE3 Tf rfl
def aDj:fu 230 Tf:=prX aO [7,12,16,18,20,22,24,28,31,32,33] [(14,[0,1,3,7,15,0,32,127,255],fK [3,16,32,48,67,80,99,114,128])] (aU abo (aU aea (aU XH (aU ayD bC)))) func230
def lvH:Nat->id InH
 |0=>⟨λ_ _=>.bad,λ_ _ _ _ _ _ _ e=>by cases e⟩
 |n+1=>⟨@Tf (lvH n),@aDj (lvH n)⟩
abbrev abJ:Fun:= @InH.F (lvH 3)
def aDk:fu 230 abJ:= @InH.ok (lvH 3)
def anF:Rg:=λf h=>f 1 λa=>eU 40 a h λb c=>a! (ss 4 (K false) (ss 3 b f)) c
def anE:Rg:=λf h=>f 0 λa=>Td [a] h λb c=>ifB b (aZ 2 a c λd i=>aJ .eql .none d (Y U 0) i λj m=>ifB j (a! (ss 4 (K true) f) m) (f 3 λn=>cO 8 n m λo p=>Oq [o] p λq r=>aZ 2 a r λs t=>aJ .sub .none s (Y U 1) t λu v=>abJ [q,a,u] v λw x=>a! (ss 4 w f) x)) (a! (ss 4 (K false) f) c)
def aw2:Rg:=aC anF (aC anE b!)
def abI:Fun:=c_ [0,1,3,4] f140.ntmps [.tmp 4] aw2
def ayV:=fE2 abI rfl
def aHQ:fu 140 abI:=prX aO [] [] (aU aDi (aU ayE (aU aDk bC))) func140
def adz:Rg:=λf h=>f 0 λa=>aS a (aK 0 h) λb _=>aF 1 b (aK 0 h) λc _=>aG c (aK 0 h) λd _=>VH [d] (aK 0 h) λi j=>f 0 λm=>aS m j λn _=>aF 1 n j λo _=>aG o j λp _=>chk (λh=>aG o h) p ( Hz [p] j λq r=>f 1 λs=>aS s r λt _=>aF 3 t r λu _=>aG u r λv _=>chk (λh=>aG u h) v ( HY [v,i,q] r λw x=>bJ 0 w x λy _=>bJ 1 w x λz _=>bJ 2 w x λe _=>a! (ss 7 e (ss 6 z (ss 5 y f))) x) 2 [j,(aK 0 h)]) 1 [(aK 0 h)]
def ady:=r1 32 7 λa h=>aJ .neq .none a (Y U 0) h
def adx:Rg:=λf h=>bP 9 [H []] 1 [(0,1,(H [42,32,83,69,65,82,67,72]))] h λa b=>a! (ss 8 a f) b
def adw:=rC 9 (Y U 0)
def adu:Rg:=λf h=>f 0 λa=>f 1 λb=>aS b h λc d=>aF 1 c d λi j=>aG i j λm n=>zh [a,m] n λo p=>aZ 2 o p λq r=>a! (ss 42 (Y U 0) (ss 41 q (ss 40 o f))) r
def adt:=r2 43 42 41 λa b h=>aJ .lss .none a b h
def QK:Rg:=λf h=>f 40 λa=>f 42 λb=>bD 10 a b h λc d=>cO 10 c d λi j=>eY 200 [Y U 0,Y U 0,Y U 0,Y U 0,H [],Y U 0,.aQ,.aQ,Y U 0,Y U 0] j λm n=>aV 10 m i n λ_ o=>a! (ss 11 m f) o
def QJ:Rg:=λf h=>f 5 λa=>f 11 λb=>aF 2 b h λc d=>cO 8 c d λi j=>abI [a,i] j λm n=>a! (ss 49 m f) n
def Y9:Rg:=λf h=>f 8 λa=>f 1 λb=>f 11 λc=>cO 10 c h λd i=>Ov [b,d] i λj m=>oI [j] m λn o=>bP 9 [H []] 1 [(0,1,n)] o λp q=>bZ 9 1 16 a p q λr s=>a! (ss 8 r f) s
def Y8:Rg:=λf h=>f 9 λa=>f 11 λb=>aF 2 b h λc d=>aF 6 c d λi j=>aG i j λm n=>akv a m n λo p=>a! (ss 9 o f) p
def Y7:=r1 42 42 λa h=>aJ .add .none a (Y U 1) h
def Y6:Rg:=λf h=>f 6 λa=>ifB a (f 8 λb=>aZ 2 b h λc d=>aJ .gtr .none c (Y U 1) d λi j=>a! (ss 68 i f) j) (a! (ss 68 (K false) f) h)
def Y5:Rg:=λf h=>f 1 λa=>f 8 λb=>wu [a,b] h λc d=>a! f d
def Y4:Rg:=λf h=>f 1 λa=>aS a h λb c=>aF 4 b c λd i=>aG d i λj m=>oUn .not j m λn o=>bK [Y U 0,H [],(K false),(K false),(K false)] [(4,1,n)] o λp q=>f 4 λr=>aV 5 r p q λ_ s=>a! f s
def adZ:Rg:=aC adt (aC (tT 43 a! (Out.ex 0)) (aC (bI 1 (aC QK (aC QJ (tT 49 (aC Y9 Y8) a!)))) Y7))
def XA:Rg:=aC aqu (aC adz (aC (aC ady (tT 32 zz a!)) (aC adx (aC adw (aC (aC adu (bI 0 (dI adZ lf))) (aC (aC Y6 (tT 68 zz a!)) (aC Y5 (aC Y4 b!))))))))
def Ou:Fun:=c_ [0,1,4,5,6,7,8,9,11,32,40,41,42,43,49,68] f71.ntmps [.cell 4 145] XA
def aqO:=fE2 Ou rfl
def ayK:fu 71 Ou:=prX aO [3,14] [(1,[0,1,3,7,0,16,48,112,240,0,512,1536,3584,8176,16383,32767,65535,65535,65535,131071,786431,2097151],fK [64,80,96,115,130,144,160,176,196,210,0,16,32,53,226,240,256,272,288,304,320,336])] (aU axh (aU agF (aU aFy (aU as6 (aU aHQ (aU ayL (aU XE (aU atH bC)))))))) func71
def aFe:FuncId->Option Fun:=nO [(93,EU),(95,uY),(136,aDz),(60,atK),(61,Xd),(71,Ou)]
def NK:=r1 11 2 λa h=>aJ .eql .none a (H [117,105,100]) h
def U4:Rg:=λf h=>f 1 λa=>aS a h λb c=>aF 3 b c λd i=>aG d i λj m=>EU [j,Y U 0] m λn o=>oUn .not n o λp q=>a! (ss 17 p f) q
def abf:Rg:=λf h=>bK [Y U 0,H [],(K false),(K false),(K false)] [(0,1,(Y U 2)),(1,1,(H [99,111,109,109,97,110,100]))] h λa b=>f 6 λc=>aV 5 c a b λ_ d=>a! f d
def U3:Rg:=λf h=>f 1 λa=>aS a h λb c=>aF 3 b c λd i=>aG d i λj m=>bD 3 j (Y U 0) m λn o=>aF 1 n o λp q=>aG p q λr s=>uY [r] s λt u=>a! (ss 2 t f) u
def U2:Rg:=λf h=>f 1 λa=>aS a h λb c=>aF 3 b c λd i=>aG d i λj m=>eP 3 j (some (Y U 1)) none none m λn o=>aS a o λp q=>aF 3 p q λr s=>aV 1 r n s λ_ t=>aS a t λu v=>aF 4 u v λw x=>aV 1 w (K true) x λ_ y=>a! f y
def abe:Rg:=λf h=>f 0 λa=>aS a h λb c=>aF 4 b c λd i=>aG d i λj m=>f 2 λn=>Uk .string true (.agg (.cons .fJ (.cons (Y U 0) (.cons (K false) .nil)))) j n m λo p=>bJ 0 o p λq r=>bJ 1 o r λs t=>eY 122 [.fJ,Y U 0,(K false)] t λu v=>aV 3 u q v λ_ w=>a! (ss 8 s (ss 7 u f)) w
def abd:Rg:=λf h=>f 8 λa=>oUn .not a h λb c=>ifB b (a! (ss 59 (K true) f) c) (f 1 λd=>aS d c λi j=>aF 4 i j λm n=>aG m n λo p=>ifB o (f 7 λq=>aF 2 q p λr s=>aG r s λt u=>oUn .not t u λv w=>a! (ss 59 v f) w) (a! (ss 59 (K false) f) p))
def Ho:Rg:=λf h=>f 7 λa=>aF 1 a h λb c=>aG b c λd i=>a! (ss 62 d f) i
def Hl:=r1 63 62 λa h=>aJ .eql .none a (Y U 1) h
def agv:Rg:=λf h=>f 0 λa=>aS a h λb c=>aF 0 b c λd i=>aG d i λj m=>oUn .not j m λn o=>a! (ss 9 n f) o
def G9:=r1 70 62 λa h=>aJ .eql .none a (Y U 2) h
def agu:Rg:=λf h=>f 0 λa=>aS a h λb c=>aF 0 b c λd i=>aG d i λj m=>a! (ss 9 j f) m
def G8:=r1 76 62 λa h=>aJ .eql .none a (Y U 3) h
def agt:Rg:=λf h=>f 0 λa=>aS a h λb c=>aF 1 b c λd i=>aG d i λj m=>aJ .neq (.ptr 3) j .cZ m λn o=>a! (ss 9 n f) o
def G6:=r1 84 9 λa h=>oUn .not a h
def ar6:Rg:=λf h=>aDz [] h λa b=>f 6 λc=>aV 5 c a b λ_ d=>a! f d
def G5:Rg:=λf h=>f 7 λa=>aF 0 a h λb c=>aG b c λd i=>f 1 λj=>dn aFe d [j] i λm n=>f 6 λo=>aV 5 o m n λ_ p=>a! f p
def aFi:Rg:=aC QX (aC (aC NK (tT 11 (aC (aC U4 (tT 17 (aC abf b!) a!)) (aC U3 U2)) a!)) (aC abe (aC (aC abd (tT 59 (aC abf b!) a!)) (aC BJ (aC (aC Ho (bI 0 (aC Hl (tT 63 agv (aC G9 (tT 70 agu (aC G8 (tT 76 agt a!)))))))) (aC (aC G6 (tT 84 (aC ar6 b!) a!)) (aC G5 b!)))))))
def ZC:Fun:=c_ [0,1,2,6,7,8,9,11,17,59,62,63,70,76,84] f94.ntmps [.cell 6 145] aFi
def asF:=fE3 ZC rfl
def aPz:fu 94 ZC:=prX aO [] [] (aU aFE (aU Zr (aU aP7 (aU aQb (aU aFs (aU ayK bC)))))) func94
def YP:Rg:=λf h=>f 0 λa=>oI [a] h λb c=>aJ .add .none (H [42,32]) b c λd i=>aJ .add .none d (H [32]) i λj m=>f 1 λn=>ahN [n,H [32]] m λo p=>aJ .add .none j o p λq r=>aJ .add .none q (H [13,10]) r λs t=>f 2 λu=>zi [u,s] t λv w=>a! f w
def agx:Rg:=YP
def JX:Fun:=c_ [0,1,2] f174.ntmps [] agx
def aoE:=fE3 JX rfl
def axg:fu 174 JX:=prX aO [] [] (aU XE (aU aDt (aU aox bC))) func174
def MG:Rg:=λf h=>f 0 λa=>eU 248 a h λb c=>eY 250 [Y U 0,Y U 0,Y U 0,H [],Y U 0,.aQ,.aQ,Y U 0,Y U 0] c λd i=>a! (ss 4 (K false) (ss 3 d (ss 2 b f))) i
def MF:Rg:=λf h=>f 1 λa=>aG a h λb c=>f 2 λd=>dZ (.func 178) [] [d] c λi j=>oh [b,i] j λm n=>a! (ss 5 m f) n
def MC:=r1 10 5 λa h=>aJ .lss .none a (Y U 0) h
def YO:Rg:=λf h=>bK [Y U 0,Y U 0,Y U 0,H [],Y U 0,.aQ,.aQ,Y U 0,Y U 0] [] h λa b=>f 3 λc=>aV 9 c a b λ_ d=>a! (ss 4 (K false) f) d
def YN:Rg:=λf h=>f 1 λa=>aG a h λb c=>f 5 λd=>bD 9 b d c λi j=>cO 9 i j λm n=>f 3 λo=>aV 9 o m n λ_ p=>a! (ss 4 (K true) f) p
def U5:Rg:=aC MG (aC MF (aC (aC MC (tT 10 (aC YO b!) a!)) (aC YN b!)))
def JW:Fun:=c_ [0,1,2,3,4,5,10] f176.ntmps [.cell 3 250,.tmp 4] U5
def aoD:=fE2 JW rfl
def axf:fu 176 JW:=prX aO [] [] (aU ad7 bC) func176
def Zl:FuncId->Option Fun:=nO [(175,zu),(179,kX),(44,H6),(99,Kr),(174,JX),(176,JW)]
def aln:=rC 6 (H [])
def alm:=r1 23 0 λa h=>aJ .eql (.ptr 3) a .cZ h
def awM:Rg:=λf h=>eY 141 [.cZ,.aQ] h λa b=>a! (ss 7 a f) b
def awL:Rg:=λf h=>f 7 λa=>dZ (.func 174) [] [a] h λb c=>a! (ss 8 b f) c
def awK:Rg:=λf h=>f 1 λa=>f 0 λb=>aS b h λc d=>aF 0 c d λi j=>aG i j λm n=>zu [a,m] n λo p=>eY 242 [.aQ] p λq r=>aV 1 q o r λ_ s=>a! (ss 9 q f) s
def awJ:Rg:=λf h=>f 9 λa=>dZ (.func 176) [] [a] h λb c=>a! (ss 10 b f) c
def awI:=rC 11 (Y U 0)
def UY:Rg:=λf h=>f 2 λa=>ifB a (f 11 λb=>f 0 λc=>aS c h λd i=>aF 1 d i λj m=>aG j m λn o=>aZ 2 n o λp q=>aJ .lss .none b p q λr s=>a! (ss 41 r f) s) (a! (ss 41 (K false) f) h)
def alk(fr:F)(h:Hp):Out:=
 fr 10 λa=>fr 0 λb=>aS b h λc d=>
 aF 1 c d λi j=>
 aG i j λm n=>
 fr 11 λo=>bD 3 m o n λp q=>
 cO 3 p q λr s=>
 dn Zl a [r] s λt u=>
 bJ 0 t u λv w=>
 bJ 1 t w λx y=>
 eY 250 [Y U 0,Y U 0,Y U 0,H [],Y U 0,.aQ,.aQ,Y U 0,Y U 0] y λz e=>
 aV 9 z v e λ_ f=>
 a! (ss 13 x fr) f
def ags:=rM 54 13
def ar2:Rg:=λf h=>f 8 λa=>f 11 λb=>aJ .add .none b (Y U 1) h λc d=>bP 9 [H []] 1 [(0,1,(H [69,88,80,85,78,71,69]))] d λi j=>dn Zl a [c,i] j λm n=>a! f n
def ar1:Rg:=λf h=>f 0 λa=>aS a h λb c=>aF 1 b c λd i=>aG d i λj m=>f 11 λn=>aJ .add .none n (Y U 1) m λo p=>kX [j,n,o] p λq r=>aS a r λs t=>aF 1 s t λu v=>aV 1 u q v λ_ w=>a! f w
def ar0:Rg:=λf h=>f 0 λa=>aS a h λb c=>aF 1 b c λd i=>aG d i λj m=>aZ 2 j m λn o=>a! (ss 78 (Y U 0) (ss 77 n (ss 76 j f))) o
def arZ:=r2 79 78 77 λa b h=>aJ .lss .none a b h
def agr:Rg:=λf h=>f 78 λa=>f 76 λb=>bD 3 b a h λc d=>cO 3 c d λi j=>eY 248 [Y U 0,Y U 0,.cZ] j λm n=>aV 3 m i n λ_ o=>a! (ss 14 a (ss 15 m f)) o
def agq:Rg:=λf h=>f 10 λa=>f 15 λb=>cO 3 b h λc d=>dn Zl a [c] d λi j=>bJ 0 i j λm n=>bJ 1 i n λo p=>eY 250 [Y U 0,Y U 0,Y U 0,H [],Y U 0,.aQ,.aQ,Y U 0,Y U 0] p λq r=>aV 9 q m r λ_ s=>a! (ss 17 o (ss 16 q f)) s
def agp:Rg:=λf h=>f 17 λa=>ifB a (f 15 λb=>aF 2 b (aK 0 h) λc _=>aG c (aK 0 h) λd _=>H6 [d] (aK 0 h) λi j=>f 16 λm=>aF 1 m j λn _=>aF 6 n j λo _=>aG o j λp _=>chk (λh=>aG o h) p ( aJ .gtr .none p i j λq _=>a! (ss 98 q f) j) 1 [(aK 0 h)]) (a! (ss 98 (K false) f) (aK 0 h))
def arY:=r1 78 78 λa h=>aJ .add .none a (Y U 1) h
def arX:Rg:=λf h=>f 0 λa=>aS a (aK 0 h) λb _=>aF 2 b (aK 0 h) λc _=>aG c (aK 0 h) λd _=>f 0 λi=>aS i (aK 0 h) λj _=>aF 1 j (aK 0 h) λm _=>aG m (aK 0 h) λn _=>aZ 2 n (aK 0 h) λo _=>a! (ss 19 o (ss 18 d f)) (aK 0 h)
def arW:Rg:=λf h=>f 9 λa=>aG a h λb c=>aZ 2 b c λd i=>a! (ss 135 (Y U 0) (ss 134 d (ss 133 b f))) i
def arV:=r2 136 135 134 λa b h=>aJ .lss .none a b h
def arU:Rg:=λf h=>f 133 λa=>f 135 λb=>bD 9 a b h λc d=>cO 9 c d λi j=>eY 250 [Y U 0,Y U 0,Y U 0,H [],Y U 0,.aQ,.aQ,Y U 0,Y U 0] j λm n=>aV 9 m i n λ_ o=>a! (ss 21 m f) o
def arT:Rg:=λf h=>f 21 λa=>aF 0 a h λb c=>aG b c λd i=>f 18 λj=>aJ .gtr .none d j i λm n=>a! (ss 142 m f) n
def arS:=r1 135 135 λa h=>aJ .add .none a (Y U 1) h
def agn:Rg:=λf h=>f 0 λa=>aS a h λb c=>aF 1 b c λd i=>aG d i λj m=>aZ 2 j m λn o=>f 19 λp=>aJ .gtr .none n p o λq r=>a! (ss 153 q f) r
def agm:=r1 6 7 λa h=>Kr [a] h
def VF:Rg:=aC (aC UY (tT 41 a! (Out.ex 0))) (bI 1 (aC (aC alk (aC ags (tT 54 (aC aa4 (Out.ex 1)) a!))) (aC ar2 ar1)))
def aFG:Rg:=aC arZ (aC (tT 79 a! (Out.ex 2)) (aC (bI 3 (aC agr (aC agq (aC agp (tT 98 zz a!))))) arY))
def aFF:Rg:=aC arV (aC (tT 136 a! (Out.ex 4)) (aC (bI 5 (aC arU (aC arT (tT 142 zz a!)))) arS))
def aoo:Rg:=aC aln (aC (aC alm (tT 23 (aC aln b!) a!)) (aC awM (aC awL (aC awK (aC awJ (aC (aC awI (bI 0 (dI VF lf))) (aC (aC ar0 (bI 2 (dI aFG lf))) (aC arX (aC (aC arW (bI 4 (dI aFF lf))) (aC (aC agn (tT 153 zz a!)) (aC agm b!)))))))))))
def ZB:Fun:=c_ [0,1,2,6,7,8,9,10,11,13,14,15,16,17,18,19,21,23,41,54,76,77,78,79,98,133,134,135,136,142,153] f97.ntmps [.tmp 6] aoo
def asE:=fE3 ZB rfl
def aPy:fu 97 ZB:=prX aO [19,20,27,30] [(18,[0,1,3,7,15,3,35,99,255,511],fK [0,16,80,99,114,32,48,68,128,144]),(22,[0,1,3,7,0,16,48,112,240,15,1023],fK [0,16,32,51,64,80,96,115,128,144,160])] (aU aj8 (aU agK (aU asA (aU axq (aU axg (aU axf bC)))))) func97
def TQ:Rg:=λf h=>f 3 λa=>eU 94 a h λb c=>a! (ss 9 (K false) (ss 8 (H []) (ss 7 b f))) c
def TP:Rg:=λf h=>f 0 λa=>aJ .eql (.ptr 5) a .cZ h λb c=>ifB b (a! (ss 13 (K true) f) c) (f 1 λd=>aJ .eql (.ptr 16) d .cZ c λi j=>a! (ss 13 i f) j)
def aqs:Rg:=λf h=>a! (ss 9 (K false) (ss 8 (H []) f)) h
def TM:Rg:=λf h=>f 7 λa=>aF 0 a h λb c=>aG b c λd i=>aJ .eql .none d (Y U 2) i λj m=>a! (ss 20 j f) m
def aqr:Rg:=λf h=>a! (ss 9 (K true) (ss 8 (H [43,32,103,111,32,111,110,13,10]) f)) h
def TL(fr:F)(h:Hp):Out:=
 fr 7 λa=>aF 0 a h λb c=>
 aG b c λd i=>
 aJ .neq .none d (Y U 1) i λj m=>
 ifB j (a! (ss 24 (K true) fr) m) (aF 1 a m λn o=>
 aG n o λp q=>
 EU [p,Y U 0] q λr s=>
 oUn .not r s λt u=>
 ifB t (a! (ss 24 (K true) fr) u) (aF 1 a u λv w=>
 aG v w λx y=>
 EU [x,Y U 1] y λz e=>
 oUn .not z e λf g=>
 a! (ss 24 f fr) g))
def aqp:Rg:=λf h=>a! (ss 9 (K true) (ss 8 (H [42,32,66,65,68,32,108,105,110,101,13,10]) f)) h
def TK:Rg:=λf h=>f 0 λa=>aS a h λb c=>aF 3 b c λd i=>ZE [d,Y U 1] i λj m=>a! f m
def TJ:Rg:=λf h=>f 0 λa=>f 1 λb=>f 2 λc=>f 7 λd=>aF 1 d h λi j=>aG i j λm n=>eP 3 m (some (Y U 2)) none none n λo p=>bK [.cZ,.cZ,Y U 0,.aQ,(K false),.cZ,.aQ] [(0,1,a),(1,1,b),(2,1,c),(3,1,o)] p λq r=>eU 143 q r λs t=>a! (ss 10 s f) t
def TI:Rg:=λf h=>f 0 λa=>f 10 λb=>f 7 λc=>aF 1 c h λd i=>aG d i λj m=>bD 3 j (Y U 1) m λn o=>aF 1 n o λp q=>aG p q λr s=>uY [r] s λt u=>ZC [a,b,t] u λv w=>eY 145 [Y U 0,H [],(K false),(K false),(K false)] w λx y=>aV 5 x v y λ_ z=>a! (ss 11 x f) z
def NJ:Rg:=λf h=>f 7 λa=>aF 1 a h λb c=>aG b c λd i=>bD 3 d (Y U 0) i λj m=>aF 1 j m λn o=>aG n o λp q=>a! (ss 12 p f) q
def NI:Rg:=λf h=>f 11 λa=>aF 0 a h λb c=>aG b c λd i=>aJ .eql .none d (Y U 1) i λj m=>a! (ss 66 j f) m
def aa3:Rg:=λf h=>f 12 λa=>aJ .add .none a (H [32,78,79,32]) h λb c=>f 11 λd=>aF 1 d c λi j=>aG i j λm n=>aJ .add .none b m n λo p=>aJ .add .none o (H [13,10]) p λq r=>a! (ss 9 (K true) (ss 8 q f)) r
def UX:Rg:=λf h=>f 11 λa=>aF 0 a h λb c=>aG b c λd i=>aJ .eql .none d (Y U 2) i λj m=>a! (ss 76 j f) m
def ald:Rg:=λf h=>f 12 λa=>aJ .add .none a (H [32,66,65,68,32]) h λb c=>f 11 λd=>aF 1 d c λi j=>aG i j λm n=>aJ .add .none b m n λo p=>aJ .add .none o (H [13,10]) p λq r=>a! (ss 9 (K true) (ss 8 q f)) r
def UW:Rg:=λf h=>f 11 λa=>aF 3 a h λb c=>aG b c λd i=>oUn .not d i λj m=>a! (ss 88 j f) m
def aa2:Rg:=λf h=>f 0 λa=>aS a (aK 0 h) λb _=>aF 1 b (aK 0 h) λc _=>aG c (aK 0 h) λd _=>f 1 λi=>f 11 λj=>aF 4 j (aK 0 h) λm _=>aG m (aK 0 h) λn _=>oUn .not n (aK 0 h) λo _=>ZB [d,i,o] (aK 0 h) λp q=>f 10 λr=>aS r q λs _=>aF 5 s q λt _=>zi [t,p] q λu v=>a! f v
def aa1:Rg:=λf h=>f 11 λa=>aF 1 a h λb c=>aG b c λd i=>aJ .neq .none d (H []) i λj m=>a! (ss 104 j f) m
def alc:Rg:=λf h=>f 10 λa=>f 12 λb=>f 11 λc=>aF 1 c h λd i=>aG d i λj m=>aJ .add .none (H [91]) j m λn o=>aJ .add .none n (H [93]) o λp q=>bP 9 [H [],H [],H [],H []] 4 [(0,1,b),(1,1,(H [79,75])),(2,1,p),(3,1,(H [100,111,110,101]))] q λr s=>wu [a,r] s λt u=>a! f u
def alb:Rg:=λf h=>f 10 λa=>f 12 λb=>bP 9 [H [],H []] 2 [(0,1,b),(1,1,(H [79,75,32,100,111,110,101]))] h λc d=>wu [a,c] d λi j=>a! f j
def aa0:Rg:=λf h=>f 10 λa=>aS a (aK 0 h) λb _=>aF 5 b (aK 0 h) λc _=>Kr [c] (aK 0 h) λd i=>f 11 λj=>aF 2 j i λm _=>aG m i λn _=>chk (λh=>aG m h) n ( oUn .not n i λo _=>a! (ss 9 o (ss 8 d f)) i) 1 [(aK 0 h)]
def aIw:Rg:=aC TQ (aC (bI 0 (aC TP (tT 13 (aC aqs b!) (aC TM (tT 20 (aC aqr b!) (aC TL (tT 24 (aC aqp b!) a!))))))) (aC TK (aC TJ (aC TI (aC NJ (aC (bI 1 (aC NI (tT 66 (aC aa3 b!) (aC UX (tT 76 (aC ald b!) a!))))) (aC (aC UW (tT 88 aa2 a!)) (aC (aC aa1 (tT 104 alc alb)) (aC aa0 b!)))))))))
def ahO:Fun:=c_ [0,1,2,3,7,8,9,10,11,12,13,20,24,66,76,88,104] f42.ntmps [.tmp 8,.tmp 9] aIw
def aH4:=fE4 ahO rfl
def aQa:fu 42 ahO:=prX aO [] [(16,[0,1,3,0,8,24,56,0,0,256,768,2040,4095],fK [48,64,80,99,112,128,147,160,178,0,16,32,194]),(20,[0,1,3,7,0,16,48,15,255],fK [0,16,32,50,64,84,96,112,128])] (aU aFE (aU aFD (aU Zr (aU aPz (aU aPy (aU aox (aU atH (aU axq bC)))))))) func42
abbrev jS:Fun:=Ik.awh
def ayI:fu 14 jS:=Ik.aHw
abbrev wP:Fun:=Ik.Ws
def axk:fu 104 wP:=Ik.aEG
def ajQ:FuncId->Option Fun:=nO [(104,wP)]
def acE:=rC 5 (.func (.func 104) .nil .nil)
def acD:Rg:=λf h=>f 5 λa=>f 1 λb=>dn ajQ a [b,H [105,110,45,114,101,112,108,121,45,116,111]] h λc d=>a! (ss 6 c f) d
def acC:=r1 13 6 λa h=>aJ .eql .none a (H []) h
def ajW:Rg:=aC awX (aC acE (aC acD (aC (aC acC (tT 13 (aC awX b!) a!)) zz)))
def EO:Fun:=c_ [0,1,4,5,6,8,13,17,18,19,20,28] f48.ntmps [.tmp 4] ajW
def aqD:=fE2 EO rfl
def ayz:fu 48 EO:=prX aO [5,6,7,8,9,10,11] [] (aU axk bC) func48
def QA:=r1 22 0 λa h=>aJ .eql (.ptr 16) a .cZ h
def Qz:Rg:=λf h=>f 1 λa=>aZ 2 a h λb c=>aJ .eql .none b (Y U 0) c λd i=>ifB d (a! (ss 33 (K true) f) i) (f 3 λj=>aJ .lss .none j (Y U 0) i λm n=>ifB m (a! (ss 33 (K true) f) n) (aJ .gtr .none j (Y U 253402300799) n λo p=>a! (ss 33 o f) p))
def Qy:Rg:=λf h=>f 2 λa=>Xf [a] h λb c=>bJ 0 b c λd i=>bJ 1 b i λj m=>a! (ss 13 j (ss 12 d f)) m
def Qx:=r1 40 13 λa h=>aJ .neq .none a (Y U 0) h
def Qw:Rg:=λf h=>f 0 λa=>f 1 λb=>Oj [a,b] h λc d=>bJ 0 c d λi j=>bJ 1 c j λm n=>a! (ss 15 m (ss 14 i f)) n
def Ql:=r1 48 15 λa h=>oUn .not a h
def Nq:Rg:=λf h=>f 0 λa=>aS a (aK 0 h) λb _=>aF 11 b (aK 0 h) λc _=>aG c (aK 0 h) λd _=>aZ 2 d (aK 0 h) λi _=>f 0 λj=>aS j (aK 0 h) λm _=>aF 0 m (aK 0 h) λn _=>aF 2 n (aK 0 h) λo _=>aG o (aK 0 h) λp _=>aJ .geq .none i p (aK 0 h) λq _=>a! (ss 51 q f) (aK 0 h)
def Np:Rg:=λf h=>f 4 λa=>aZ 1 a (aK 0 h) λb _=>f 0 λc=>aS c (aK 0 h) λd _=>aF 0 d (aK 0 h) λi _=>aF 4 i (aK 0 h) λj _=>aG j (aK 0 h) λm _=>f 0 λn=>aS n (aK 0 h) λo _=>aF 15 o (aK 0 h) λp _=>aG p (aK 0 h) λq _=>aJ .sub .none m q (aK 0 h) λr _=>aJ .gtr .none b r (aK 0 h) λs _=>a! (ss 51 s f) (aK 0 h)
def Nl:=r1 76 0 λa h=>Px [a] h
def Nk:Rg:=λf h=>f 14 λa=>f 0 λb=>dZ (.func 47) [b] [] h λc d=>jb [a,c] d λi j=>a! (ss 76 i f) j
def Nj:=r1 16 0 λa h=>Pv [a] h
def Nh:Rg:=λf h=>f 0 λa=>aS a h λb c=>aF 14 b c λd i=>aG d i λj m=>aJ .add .none j (Y U 1) m λn o=>aS a o λp q=>aF 14 p q λr s=>aV 1 r n s λ_ t=>a! f t
def Nc(fr:F)(h:Hp):Out:=
 fr 0 λa=>fr 4 λb=>EO [a,b] (aK 1 h) λc d=>
 fr 0 λi=>aS i d λj _=>
 aF 14 j d λm _=>
 aG m d λn _=>chk (λh=>aG m h) n (
 fr 4 λo=>fr 3 λp=>fr 12 λq=>fr 16 λr=>fr 16 λs=>bK [Y U 0,Y U 0,H [],Y U 0,.aQ,.aQ,Y U 0,Y U 0] [(0,1,n),(1,1,c),(2,1,o),(3,1,p),(4,1,q),(6,1,r),(7,1,s)] d λt _=>
 IC (afd 40 [Y U 0,Y U 0,H [],Y U 0,.aQ,.aQ,Y U 0,Y U 0]) λf e=>
 aV 8 (e (Hp.next h)) t (Hp.put d (Hp.next h) (some f)) λ_ u=>
 a! (ss 17 (e (Hp.next h)) fr) u) 1 [(aK 1 h)]
def MZ:=rC 18 (Y U 2)
def MX:Rg:=λf h=>f 17 λa=>aF 1 a h λb c=>aG b c λd i=>aJ .eql .none d (Y U 0) i λj m=>a! (ss 107 j f) m
def MW:Rg:=λf h=>f 17 λa=>aF 0 a h λb c=>aG b c λd i=>aF 1 a i λj m=>aV 1 j d m λ_ n=>a! (ss 18 (Y U 1) f) n
def MV:Rg:=λf h=>f 14 λa=>aZ 2 a h λb c=>a! (ss 113 (Y U 0) (ss 112 b (ss 111 a f))) c
def Y1:=r2 114 113 112 λa b h=>aJ .lss .none a b h
def YZ:Rg:=λf h=>f 111 λa=>f 113 λb=>bD 1 a b h λc d=>aG c d λi j=>a! (ss 20 i f) j
def YX(fr:F)(h:Hp):Out:=
 fr 0 λa=>fr 20 λb=>Ol [a,b] (aK 1 h) λc d=>
 fr 17 λi=>aF 5 i d λj _=>
 aG j d λm _=>chk (λh=>aG j h) m (
 IC (eH 106 [Y U 0,Y U 0] 1 [(0,2,c)]) λf e=>
 bZ 106 2 16 m (e (Hp.next h)) (Hp.put d (Hp.next h) (some f)) λn o=>
 fr 17 λp=>aF 5 p o λq _=>
 aV 1 q n o λ_ r=>
 a! fr r) 1 [(aK 1 h)]
def YW:=r1 113 113 λa h=>aJ .add .none a (Y U 1) h
def MS(fr:F)(h:Hp):Out:=
 fr 0 λa=>aS a (aK 1 h) λb _=>
 aF 11 b (aK 1 h) λc _=>
 aG c (aK 1 h) λd _=>
 fr 17 λi=>cO 8 i (aK 1 h) λj _=>
 IC (eH 40 [Y U 0,Y U 0,H [],Y U 0,.aQ,.aQ,Y U 0,Y U 0] 1 [(0,8,j)]) λf e=>
 bZ 40 8 104 d (e (Hp.next h)) (Hp.put (aK 1 h) (Hp.next h) (some f)) λm n=>
 fr 0 λo=>aS o n λp _=>
 aF 11 p n λq _=>
 aV 1 q m n λ_ r=>
 a! fr r
def MR:Rg:=λf h=>f 0 λa=>aS a h λb c=>aF 15 b c λd i=>aG d i λj m=>f 4 λn=>aZ 1 n m λo p=>aJ .add .none j o p λq r=>aS a r λs t=>aF 15 s t λu v=>aV 1 u q v λ_ w=>a! f w
def MQ(fr:F)(h:Hp):Out:=
 fr 0 λa=>fr 16 λb=>fr 14 λc=>EN [a,b,c] (aK 1 h) λd i=>
 fr 16 λj=>fr 17 λm=>aF 0 m i λn _=>
 aG n i λo _=>chk (λh=>aG n h) o (
 bK [Y U 0,Y U 0,Y U 0,Y U 0] [(0,1,j),(1,1,(Y U 2)),(2,1,o),(3,1,(Y U 1))] i λp _=>
 fr 16 λq=>fr 17 λr=>aF 1 r i λs _=>
 aG s i λt _=>chk (λh=>aG s h) t (
 fr 18 λu=>bK [Y U 0,Y U 0,Y U 0,Y U 0] [(0,1,q),(1,1,(Y U 3)),(2,1,t),(3,1,u)] i λv _=>
 IC (eH 85 [Y U 0,Y U 0,Y U 0,Y U 0,Y U 0,Y U 0,Y U 0,Y U 0] 2 [(0,4,p),(4,4,v)]) λf e=>
 bZ 85 4 32 d (e (Hp.next h)) (Hp.put i (Hp.next h) (some f)) λw x=>
 fr 0 λy=>aS y x λz _=>
 aF 12 z x λg _=>
 aG g x λk _=>chk (λh=>aG g h) k (
 NT [k,w] x λB l=>
 a! fr l) 2 [i,(aK 1 h)]) 1 [(aK 1 h)]) 1 [(aK 1 h)]
def MP:Rg:=λf h=>f 17 λa=>aF 0 a h λb c=>aG b c λd i=>a! (ss 11 (Y U 0) (ss 10 d f)) i
def Zt:Rg:=aC Y1 (aC (tT 114 a! (Out.ex 1)) (aC (bI 2 (aC YZ YX)) YW))
def Oh:Rg:=aC zV (aC (aC QA (tT 22 zz a!)) (aC (aC Qz (tT 33 zz a!)) (aC Qy (aC (aC Qx (tT 40 zz a!)) (aC Qw (aC (bI 0 (aC Ql (tT 48 zz (aC (aC Nq (tT 51 a! Np)) (tT 51 zz (aC (aC Nl (tT 76 a! Nk)) (tT 76 zz a!))))))) (aC Nj (aC Nh (aC Nc (aC MZ (aC (aC MX (tT 107 MW a!)) (aC (aC MV (bI 1 (dI Zt lf))) (aC MS (aC MR (aC MQ (aC MP b!))))))))))))))))
def vO:Fun:=c_ [0,1,2,3,4,10,11,12,13,14,15,16,17,18,20,22,33,40,48,51,76,107,111,112,113,114] f20.ntmps [.tmp 10,.tmp 11] Oh
def aqG:=fE5 vO rfl
def ayC:fu 20 vO:=prX aO [2,4,7,10,13,16] [(11,[0,1,3,7,15,0,32,96,224,480,1023,2047],fK [0,16,32,51,64,80,96,112,128,147,160,176]),(12,[0,1,0,4,12,28,60,0,128,384,896,2044,4095,8191],fK [0,16,32,48,64,80,99,112,128,144,163,176,192,208]),(19,[0,1,3,7,0,0,48,0,0,0,0,0,4095,0,16383],fK [64,80,98,0,16,32,52,112,128,144,160,176,192,209,226]),(26,[0,1,0,0,12,28,63,127,255],fK [32,48,66,0,20,81,98,112,130]),(28,[0,0,2,6,14,0,32,126,255,511,1023],fK [16,32,48,67,83,97,114,0,128,144,162]),(30,[0,1,3,7,0,0,0,112,0,0,512,1792,0,0,8192,0,61440,130816,262128,524287],fK [64,80,96,114,128,144,164,176,192,208,228,240,256,273,290,0,16,32,53,306])] (aU aFv (aU ayy (aU asx (aU JR (aU asw (aU ayz (aU ayA (aU aj9 (aU axo bC))))))))) func20
def anT:Rg:=λf h=>a! (ss 3 (Y U 0) (ss 2 .cZ f)) h
def anS:=r1 5 0 λa h=>aJ .lss .none a (Y U 1) h
def anR:Rg:=λf h=>f 0 λa=>bK [Y U 0,.aQ,Y U 0] [(0,1,a)] h λb c=>eU 130 b c λd i=>a! (ss 3 (Y U 0) (ss 2 d f)) i
def aw6:Rg:=aC anT (aC (aC anS (tT 5 zz a!)) (aC anR b!))
def abM:Fun:=c_ [0,2,3,5] f55.ntmps [.tmp 2,.tmp 3] aw6
def ayZ:=fE1 abM rfl
def aHT:fu 55 abM:=prX aO [2] [] bC func55
def anB:Rg:=λf h=>f 0 λa=>eU 62 a h λb c=>a! (ss 3 (Y U 0) (ss 2 .cZ (ss 1 b f))) c
def anA:Rg:=λf h=>f 1 λa=>aF 0 a h λb c=>aG b c λd i=>xH [d] i λj m=>oUn .not j m λn o=>ifB n (a! (ss 18 (K true) f) o) (aF 1 a o λp q=>aG p q λr s=>xH [r] s λt u=>oUn .not t u λv w=>a! (ss 18 v f) w)
def anz(fr:F)(h:Hp):Out:=
 fr 1 λa=>aF 2 a h λb c=>
 aG b c λd i=>
 aF 3 a i λj m=>
 aG j m λn o=>
 aF 4 a o λp q=>
 aG p q λr s=>
 aF 5 a s λt u=>
 aG t u λv w=>
 aF 6 a w λx y=>
 aG x y λz f=>
 aF 7 a f λg k=>
 aG g k λl B=>
 aF 8 a B λC E=>
 aG C E λG I=>
 bP 3 [Y U 0,Y U 0,Y U 0,Y U 0,Y U 0,Y U 0,Y U 0] 7 [(0,1,d),(1,1,n),(2,1,r),(3,1,v),(4,1,z),(5,1,l),(6,1,G)] I λe J=>
 aZ 2 e J λL M=>
 a! (ss 35 (Y U 0) (ss 34 L (ss 33 e fr))) M
def anx:=r2 36 35 34 λa b h=>aJ .lss .none a b h
def anw:Rg:=λf h=>f 33 λa=>f 35 λb=>bD 1 a b h λc d=>aG c d λi j=>a! (ss 5 i f) j
def anv:Rg:=λf h=>f 5 λa=>aJ .lss .none a (Y U 1) h λb c=>ifB b (a! (ss 44 (K true) f) c) (aJ .gtr .none a (Y U 2147483647) c λd i=>a! (ss 44 d f) i)
def anu:=r1 35 35 λa h=>aJ .add .none a (Y U 1) h
def ant:Rg:=λf h=>f 1 λa=>aF 7 a h λb c=>aG b c λd i=>abM [d] i λj m=>bJ 0 j m λn o=>bJ 1 j o λp q=>a! (ss 6 n f) q
def aiY:Rg:=λf h=>f 1 λa=>cO 9 a h λb c=>bK [Y U 0,H [],Y U 0,Y U 0,Y U 0,Y U 0] [(0,1,(Y U 1)),(1,1,(H [73,78,66,79,88])),(3,1,(Y U 1)),(4,1,(Y U 1)),(5,1,(Y U 1))] c λd i=>bP 55 [Y U 0,H [],Y U 0,Y U 0,Y U 0,Y U 0] 1 [(0,6,d)] i λj m=>f 6 λn=>bK [H [],H [],Y U 0,Y U 0,Y U 0,Y U 0,Y U 0,Y U 0,Y U 0,Y U 0,.aQ,.aQ,.cZ,Y U 0,Y U 0,Y U 0] [(0,9,b),(10,1,j),(12,1,n),(13,1,(Y U 1))] m λo p=>eU 78 o p λq r=>a! (ss 8 q f) r
def aiX:Rg:=λf h=>f 8 λa=>aS a h λb c=>aF 9 b c λd i=>yK [d,Y U 1] i λj m=>a! f m
def aiW:Rg:=λf h=>f 8 λa=>a! (ss 3 (Y U 0) (ss 2 a f)) h
def aDu:Rg:=aC anx (aC (tT 36 a! (Out.ex 0)) (aC (bI 1 (aC anw (aC anv (tT 44 zz a!)))) anu))
def alr:Rg:=aC anB (aC (aC anA (tT 18 zz a!)) (aC (aC anz (bI 0 (dI aDu lf))) (aC ant (aC aiY (aC aiX (aC aiW b!))))))
def abD:Fun:=c_ [0,1,2,3,5,6,8,18,33,34,35,36,44] f26.ntmps [.tmp 2,.tmp 3] alr
def ayS:=fE1 abD rfl
def aHO:fu 26 abD:=prX aO [2,7] [] (aU asv (aU aHT (aU aow bC))) func26
def ai6:Rg:=λf h=>eY 62 [H [],H [],Y U 0,Y U 0,Y U 0,Y U 0,Y U 0,Y U 0,Y U 0] h λa b=>a! (ss 0 a f) b
def ai5:Rg:=λf h=>bK [H [],H [],Y U 0,Y U 0,Y U 0,Y U 0,Y U 0,Y U 0,Y U 0] [(0,1,(H [117])),(1,1,(H [112])),(2,1,(Y U 1000)),(3,1,(Y U 100)),(4,1,(Y U 1048576)),(5,1,(Y U 1073741824)),(6,1,(Y U 1073741824)),(7,1,(Y U 10000)),(8,1,(Y U 200))] h λa b=>f 0 λc=>aV 9 c a b λ_ d=>a! f d
def agD:Rg:=aC ai6 (aC ai5 b!)
def Xc:Fun:=c_ [0] f27.ntmps [.cell 0 62] agD
def axA(h:Hp):Xc [] h=bU prog [.cell 0 62] (agD T.nil h):=kR
def aFr:fu 27 Xc:=prX aO [] [] bC func27
def aw5:Rg:=aC ajP (aC RI b!)
def abL:Fun:=c_ [0,2] f28.ntmps [.tmp 2] aw5
def ayY:=fE1 abL rfl
def aHR:fu 28 abL:=prX aO [] [] bC func28
def aFd:=rC 0 .cZ
def aFc:Rg:=λf h=>bK [(K false),.cZ,(K false),Y U 0,.jM] [] h λa b=>eU 119 a b λc d=>a! (ss 1 c f) d
def aFb(fr:F)(h:Hp):Out:=
 fr 1 λa=>Z8 h λb c=>
 dZ (.func 57) [a] [] c λd i=>
 bK [.fJ,Y U 0,(K false)] [(0,1,d),(1,1,(Y U 0)),(2,1,(K false))] i λj m=>
 gm .string b (H [99,97,112,97,98,105,108,105,116,121]) j m λ_ n=>
 dZ (.func 58) [a] [] n λo p=>
 bK [.fJ,Y U 0,(K false)] [(0,1,o),(1,1,(Y U 0)),(2,1,(K false))] p λq r=>
 gm .string b (H [110,111,111,112]) q r λ_ s=>
 dZ (.func 59) [a] [] s λt u=>
 bK [.fJ,Y U 0,(K false)] [(0,1,t),(1,1,(Y U 0)),(2,1,(K false))] u λv w=>
 gm .string b (H [108,111,103,111,117,116]) v w λ_ x=>
 dZ (.func 60) [a] [] x λy z=>
 bK [.fJ,Y U 0,(K false)] [(0,1,y),(1,1,(Y U 1)),(2,1,(K false))] z λe f=>
 gm .string b (H [108,111,103,105,110]) e f λ_ g=>
 dZ (.func 61) [a] [] g λk l=>
 bK [.fJ,Y U 0,(K false)] [(0,1,k),(1,1,(Y U 2)),(2,1,(K false))] l λB C=>
 gm .string b (H [115,101,108,101,99,116]) B C λ_ E=>
 dZ (.func 62) [a] [] E λG I=>
 bK [.fJ,Y U 0,(K false)] [(0,1,G),(1,1,(Y U 2)),(2,1,(K false))] I λJ L=>
 gm .string b (H [101,120,97,109,105,110,101]) J L λ_ M=>
 dZ (.func 63) [a] [] M λP Q=>
 bK [.fJ,Y U 0,(K false)] [(0,1,P),(1,1,(Y U 2)),(2,1,(K false))] Q λS W=>
 gm .string b (H [99,114,101,97,116,101]) S W λ_ Z=>
 dZ (.func 64) [a] [] Z λau av=>
 bK [.fJ,Y U 0,(K false)] [(0,1,au),(1,1,(Y U 2)),(2,1,(K false))] av λaw ax=>
 gm .string b (H [100,101,108,101,116,101]) aw ax λ_ ay=>
 dZ (.func 65) [a] [] ay λaz ba=>
 bK [.fJ,Y U 0,(K false)] [(0,1,az),(1,1,(Y U 2)),(2,1,(K false))] ba λbb bc=>
 gm .string b (H [114,101,110,97,109,101]) bb bc λ_ bd=>
 dZ (.func 66) [a] [] bd λbe bf=>
 bK [.fJ,Y U 0,(K false)] [(0,1,be),(1,1,(Y U 2)),(2,1,(K false))] bf λbg bh=>
 gm .string b (H [108,105,115,116]) bg bh λ_ bi=>
 dZ (.func 67) [a] [] bi λbj bk=>
 bK [.fJ,Y U 0,(K false)] [(0,1,bj),(1,1,(Y U 2)),(2,1,(K false))] bk λbl bm=>
 gm .string b (H [115,116,97,116,117,115]) bl bm λ_ bn=>
 dZ (.func 68) [a] [] bn λbo bp=>
 bK [.fJ,Y U 0,(K false)] [(0,1,bo),(1,1,(Y U 2)),(2,1,(K false))] bp λbq br=>
 gm .string b (H [97,112,112,101,110,100]) bq br λ_ bs=>
 dZ (.func 58) [a] [] bs λbt bu=>
 bK [.fJ,Y U 0,(K false)] [(0,1,bt),(1,1,(Y U 3)),(2,1,(K false))] bu λbv bw=>
 gm .string b (H [99,104,101,99,107]) bv bw λ_ bx=>
 dZ (.func 69) [a] [] bx λbz ca=>
 bK [.fJ,Y U 0,(K false)] [(0,1,bz),(1,1,(Y U 3)),(2,1,(K false))] ca λcb cc=>
 gm .string b (H [99,108,111,115,101]) cb cc λ_ cd=>
 dZ (.func 70) [a] [] cd λce cf=>
 bK [.fJ,Y U 0,(K false)] [(0,1,ce),(1,1,(Y U 3)),(2,1,(K true))] cf λcg ch=>
 gm .string b (H [101,120,112,117,110,103,101]) cg ch λ_ ci=>
 dZ (.func 71) [a] [] ci λcj ck=>
 bK [.fJ,Y U 0,(K false)] [(0,1,cj),(1,1,(Y U 3)),(2,1,(K true))] ck λcl cm=>
 gm .string b (H [115,101,97,114,99,104]) cl cm λ_ cn=>
 dZ (.func 72) [a] [] cn λco cp=>
 bK [.fJ,Y U 0,(K false)] [(0,1,co),(1,1,(Y U 3)),(2,1,(K true))] cp λcq cr=>
 gm .string b (H [102,101,116,99,104]) cq cr λ_ cs=>
 dZ (.func 73) [a] [] cs λct cu=>
 bK [.fJ,Y U 0,(K false)] [(0,1,ct),(1,1,(Y U 3)),(2,1,(K true))] cu λcv cw=>
 gm .string b (H [115,116,111,114,101]) cv cw λ_ cx=>
 dZ (.func 74) [a] [] cx λcy cz=>
 bK [.fJ,Y U 0,(K false)] [(0,1,cy),(1,1,(Y U 3)),(2,1,(K true))] cz λda db=>
 gm .string b (H [99,111,112,121]) da db λ_ dc=>
 dZ (.func 75) [a] [] dc λdd de=>
 bK [.fJ,Y U 0,(K false)] [(0,1,dd),(1,1,(Y U 3)),(2,1,(K true))] de λdf dg=>
 gm .string b (H [109,111,118,101]) df dg λ_ dh=>
 aS a dh λdi dj=>
 aF 4 di dj λdk dl=>
 aV 1 dk b dl λ_ dm=>
 a! fr dm
def aFa:=rM 0 1
def aHJ:Rg:=aC aFd (aC aFc (aC aFb (aC aFa b!)))
def aDA:Fun:=c_ [0,1] f29.ntmps [.tmp 0] aHJ
def aNn(h:Hp):aDA [] h=bU prog [.tmp 0] (aHJ T.nil h):=kR
def aQE:fu 29 aDA:=prX aO [] [] bC func29
abbrev alI:Fun:=Ik.ap2
def aHS:fu 40 alI:=Ik.aMw
abbrev asB:Fun:=Ik.ap1
def aFq:fu 41 asB:=Ik.aMv
def anN:Rg:=λf h=>alI [Y U 4000] h λa b=>f 2 λc=>FX c b λd i=>asB [a,d] i λj m=>a! (ss 7 j f) m
def anM:=rC 8 (H [])
def SN:Rg:=λf h=>f 9 λa=>f 7 λb=>aZ 2 b h λc d=>aJ .lss .none a c d λi j=>a! (ss 19 i f) j
def aaO:Rg:=λf h=>f 0 λa=>f 1 λb=>f 7 λc=>f 9 λd=>bD 2 c d h λi j=>cO 2 i j λm n=>ahO [a,b,Y U 0,m] n λo p=>bJ 0 o p λq r=>bJ 1 o r λs t=>a! (ss 11 s (ss 10 q f)) t
def aaN:=r2 8 8 10 λa b h=>aJ .add .none a b h
def aaM:=r1 36 11 λa h=>oUn .not a h
def anI:=rM 6 8
def SS:Rg:=aC (aC SN (tT 19 a! (Out.ex 0))) (aC (bI 1 (aC aaO (aC aaN (aC aaM (tT 36 (Out.ex 0) a!))))) mP)
def alu:Rg:=aC aln (aC anN (aC anM (aC (aC adw (bI 0 (dI SS lf))) (aC anI b!))))
def VK:Fun:=c_ [0,1,2,6,7,8,9,10,11,19,36] f13.ntmps [.tmp 6] alu
def ayX:=fE3 VK rfl
def axn:fu 13 VK:=prX aO [] [] (aU aHS (aU aFq (aU aQa bC))) func13
def arR:=rC 2 .cZ
def arQ:Rg:=λf h=>aDA [] h λa b=>a! (ss 3 a f) b
def arP:Rg:=λf h=>f 3 λa=>f 0 λb=>VK [a,b,H [97,32,76,79,71,73,78,32,117,32,112,13,10,98,32,83,69,76,69,67,84,32,73,78,66,79,88,13,10]] h λc d=>a! f d
def aBK:Rg:=aC arR (aC arQ (aC arP (aC afl b!)))
def ahM:Fun:=c_ [0,2,3] f12.ntmps [.tmp 2] aBK
def aDy:=fE1 ahM rfl
def aNm:fu 12 ahM:=prX aO [] [] (aU aQE (aU axn bC)) func12
def adr:Rg:=λf h=>Xc [] h λa b=>abD [a] b λc d=>bJ 0 c d λi j=>bJ 1 c j λm n=>a! (ss 4 m (ss 3 i f)) n
def adq:Rg:=λf h=>f 4 λa=>abL [a] h λb c=>aJ .neq .none b (Y U 0) c λd i=>ifB d (a! (ss 17 (K true) f) i) (f 3 λj=>aJ .eql (.ptr 16) j .cZ i λm n=>a! (ss 17 m f) n)
def ado:Rg:=λf h=>f 5 λa=>f 0 λb=>aZ 2 b h λc d=>aJ .lss .none a c d λi j=>a! (ss 21 i f) j
def adY:Rg:=aC (aC ado (tT 21 a! (Out.ex 0))) zz
def aj7:Rg:=aC arR (aC adr (aC (aC adq (tT 17 zz a!)) (aC (aC aqm (bI 0 (dI adY lf))) (aC afl b!))))
def Ot:Fun:=c_ [0,2,3,4,5,17,21] f10.ntmps [.tmp 2] aj7
def aqN:=fE1 Ot rfl
def ayJ:fu 10 Ot:=prX aO [3,7,6] [] (aU aFr (aU aHO (aU aHR bC))) func10
abbrev Tj:Fun:=Ik.aEH
def aDm:fu 9 Tj:=Ik.aO9
def rG:Rg:=λf h=>f 0 λa=>aZ 2 a h λb c=>aJ .eql .none b (Y U 0) c λd i=>ifB d (a! (ss 21 (K true) f) i) (aZ 2 a i λj m=>aJ .gtr .none j (Y U 20) m λn o=>a! (ss 21 n f) o)
def zG:Rg:=λf h=>Tj [] h λa b=>a! (ss 4 a f) b
def Lh:Rg:=λf h=>Ot [.aQ] h λa b=>a! (ss 5 a f) b
def Le:=r1 25 5 λa h=>aJ .eql (.ptr 16) a .cZ h
def Ld:Rg:=λf h=>f 5 λa=>bP 3 [Y U 0] 1 [(0,1,(Y U 1))] h λb c=>vO [a,b,.aQ,Y U 0,H [103,111,110,101]] c λd i=>a! f i
def Lc:Rg:=λf h=>a! (ss 8 (H []) (ss 7 (H []) (ss 6 (H []) f))) h
def rF:Rg:=λf h=>f 9 λa=>f 0 λb=>aZ 2 b h λc d=>aJ .lss .none a c d λi j=>a! (ss 32 i f) j
def yt:=rC 10 .aQ
def yj:Rg:=λf h=>f 0 λa=>f 9 λb=>bD 1 a b h λc d=>aG c d λi j=>a! (ss 38 i f) j
def JH:Rg:=λf h=>bP 9 [H []] 1 [(0,1,(H [36,115,101,101,110]))] h λa b=>a! (ss 10 a f) b
def yh:Rg:=λf h=>f 5 λa=>bP 3 [Y U 0] 1 [(0,1,(Y U 1))] h λb c=>f 10 λd=>f 9 λi=>aJ .add .none (Y U 100) i c λj m=>jS [j] m λn o=>aJ .add .none (H [83,117,98,106,101,99,116,58,32,115]) n o λp q=>aJ .add .none p (H [13,10,13,10,120]) q λr s=>vO [a,b,d,Y U 0,r] s λt u=>a! f u
def yg:Rg:=λf h=>f 0 λa=>f 9 λb=>bD 1 a b h λc d=>aG c d λi j=>a! (ss 52 i f) j
def JG:Rg:=λf h=>f 6 λa=>aJ .add .none a (H [32]) h λb c=>f 9 λd=>aJ .add .none d (Y U 1) c λi j=>jS [i] j λm n=>aJ .add .none b m n λo p=>a! (ss 6 o f) p
def JF:Rg:=λf h=>f 8 λa=>aJ .add .none a (H [32]) h λb c=>f 9 λd=>aJ .add .none d (Y U 2) c λi j=>jS [i] j λm n=>aJ .add .none b m n λo p=>a! (ss 8 o f) p
def JE:Rg:=λf h=>f 7 λa=>aJ .add .none a (H [32]) h λb c=>f 9 λd=>aJ .add .none d (Y U 1) c λi j=>jS [i] j λm n=>aJ .add .none b m n λo p=>a! (ss 7 o f) p
def JD:Rg:=λf h=>f 5 λa=>wQ [a,Y U 1] h λb c=>a! f c
def JC:=r1 11 5 λa h=>ahM [a] h
def JB:Rg:=λf h=>f 1 λa=>jk U a h λb c=>f 0 λd=>aZ 2 d c λi j=>aJ .rem .none b i j λm n=>a! (ss 12 m f) n
def JA:Rg:=λf h=>f 11 λa=>f 5 λb=>f 12 λc=>aJ .add .none (Y U 100) c h λd i=>jS [d] i λj m=>aJ .add .none (H [97,32,83,69,65,82,67,72,32,83,69,69,78,13,10,98,32,83,69,65,82,67,72,32,85,78,83,69,69,78,13,10,99,32,85,73,68,32,83,69,65,82,67,72,32,115,101,101,110,13,10,100,32,83,69,65,82,67,72,32,83,85,66,74,69,67,84,32,83]) j m λn o=>aJ .add .none n (H [13,10,101,32,83,69,65,82,67,72,32,49,58,42,32,78,79,84,32,65,76,76,13,10]) o λp q=>VK [a,b,p] q λr s=>a! (ss 13 r f) s
def Jz(fr:F)(h:Hp):Out:=
 fr 13 λa=>fr 6 λb=>aJ .add .none (H [42,32,83,69,65,82,67,72]) b h λc d=>
 aJ .add .none c (H [13,10,97,32,79,75,32,100,111,110,101,13,10,42,32,83,69,65,82,67,72]) d λi j=>
 fr 7 λm=>aJ .add .none i m j λn o=>
 aJ .add .none n (H [13,10,98,32,79,75,32,100,111,110,101,13,10,42,32,83,69,65,82,67,72]) o λp q=>
 fr 8 λr=>aJ .add .none p r q λs t=>
 aJ .add .none s (H [13,10,99,32,79,75,32,100,111,110,101,13,10,42,32,83,69,65,82,67,72,32]) t λu v=>
 fr 12 λw=>aJ .add .none w (Y U 1) v λx y=>
 jS [x] y λz f=>
 aJ .add .none u z f λg k=>
 aJ .add .none g (H [13,10,100,32,79,75,32,100,111,110,101,13,10,42,32,83,69,65,82,67,72,13,10,101,32,79,75,32,100,111,110,101,13,10]) k λl B=>
 aJ .eql .none a l B λC e=>
 ifB C (Tj [] e λE G=>
 a! (ss 4 E fr) G) (a! (ss 4 (K false) fr) e)
def rP:Rg:=aC (aC rF (tT 32 a! (Out.ex 0))) (aC (bI 1 (aC yt (aC (aC yj (tT 38 JH a!)) (aC yh (aC yg (tT 52 (aC JG JF) JE)))))) mP)
def qm:Rg:=aC afk (aC (aC rG (tT 21 (aC zG b!) a!)) (aC Lh (aC (aC Le (tT 25 zz a!)) (aC Ld (aC Lc (aC (aC adw (bI 0 (dI rP lf))) (aC JD (aC JC (aC JB (aC JA (aC Jz b!)))))))))))
def wo:Fun:=c_ [0,1,4,5,6,7,8,9,10,11,12,13,21,25,32,38,52] f6.ntmps [.tmp 4] qm
def abK:=fE2 wo rfl
def ahY:fu 6 wo:=prX aO [5] [] (aU aDm (aU ayJ (aU ayC (aU ayI (aU axl (aU aNm (aU axn bC))))))) func6
end
end Go.Proofs.Im
