/- Lemmas. No conditions. -/
import Derived.Test.YtpgppmioigacoaaGreatDoorFAH
import Derived.Test.YtpgppmioigacoaaGreatDoorFAP
import Derived.Test.YtpgppmioigacoaaGreatDoorFAJ
set_option linter.all false
set_option maxHeartbeats 4000000
set_option maxRecDepth 100000
open Go.Vm.Out renaming nor→a!,ret→b!
open Go.Vm.V renaming int→Y,bool→K,str→H
open Go.IntKind renaming i64→U
noncomputable section
open Go Go.Proofs Go.Vm
namespace Go.Proofs.Im
open Go.Proofs.Tryz
abbrev tA:TypeId:=145
abbrev tCn:TypeId:=119
abbrev tSt:TypeId:=78
def ayA:Fun:=Zk U
def aSt:fu 166 ayA:=anO func166 kR kR kR U kR
def NK:Fun:=abp U
def arl:fu 101 NK:=ay5 func101 kR kR kR U kR
def KU:Fun:=OM
def apw:fu 108 KU:=afV func108 kR kR kR kR
def axJ:=rC 4 (Y U 0)
def axI:Rg:=λf h=>f 0 λa=>aO a h λb c=>aC 0 b c λd i=>f 1 λj=>ayA [d,j] i λm n=>a! (ss 4 m f) n
def aGL:Rg:=aB axJ (aB axI b!)
def aax:Fun:=c_ [0,1,4] f84.ntmps [.tmp 4] aGL
def aHg:=fE2 aax rfl
def aG7:fu 84 aax:=prX aN [] [] (aU aSt bC) func84
def akP:=rC 2 (Y U 0)
def akO:Rg:=λf h=>f 0 λa=>aO a h λb c=>aC 0 b c λd i=>NK [d] i λj m=>a! (ss 2 j f) m
def as8:Rg:=aB akP (aB akO b!)
def xg:Fun:=c_ [0,2] f44.ntmps [.tmp 2] as8
def ayx:=fE1 xg rfl
def Xj:fu 44 xg:=prX aN [] [] (aU arl bC) func44
def aha:Rg:=λf h=>f 0 λa=>aO a h λb c=>aC 0 b c λd i=>f 1 λj=>KU [d,j] i λm n=>a! f n
def apk:Rg:=aha
def kE:Fun:=c_ [0,1] f56.ntmps [] apk
def atW:=fE2 kE rfl
def BX:fu 56 kE:=prX aN [] [] (aU apw bC) func56
def axG:=rC 2 (H [])
def axF:Rg:=λf h=>f 0 λa=>aZ 1 a h λb c=>xE 5 1 [(Y .u8 0)] (Y U 0) b c λd i=>a! (ss 3 d f) i
def axE:Rg:=λf h=>f 0 λa=>aZ 1 a h λb c=>a! (ss 11 (Y U 0) (ss 10 b f)) c
def VT:=r2 12 11 10 λa b h=>aH .lss .none a b h
def ab1:=rM 4 11
def abZ:=r2 5 0 4 λa b h=>jY a b h
def abY:Rg:=λf h=>f 5 λa=>aH .geq .none a (Y .u8 65) h λb c=>ifB b (aH .leq .none a (Y .u8 90) c λd i=>a! (ss 22 d f) i) (a! (ss 22 (K false) f) c)
def abX:=r1 5 5 λa h=>aH .add .none a (Y .u8 32) h
def abW:Rg:=λf h=>f 3 λa=>f 5 λb=>bU 5 [(Y .u8 0)] 1 [(0,1,b)] h λc d=>bZ 5 1 1 a c d λi j=>a! (ss 3 i f) j
def abV:=r1 11 11 λa h=>aH .add .none a (Y U 1) h
def asQ:Rg:=λf h=>f 3 λa=>Af a h λb c=>a! (ss 2 b f) c
def VY:Rg:=aB VT (aB (tT 12 a! (Out.ex 0)) (aB (bD 1 (aB ab1 (aB abZ (aB (aB abY (tT 22 abX a!)) abW)))) abV))
def aGI:Rg:=aB axG (aB axF (aB (aB axE (bD 0 (dG VY lf))) (aB asQ b!)))
def BI:Fun:=c_ [0,2,3,4,5,10,11,12,22] f95.ntmps [.tmp 2] aGI
def aHe:=fE1 BI rfl
def ahH:fu 95 BI:=prX aN [] [] bC func95
def yD:Fun:=av3
def ach:fu 289 yD:=aqn func289 kR kR kR kR
def UU:=r2 4 0 1 λa b h=>yD [a,b] h
def aam:Rg:=aB axJ (aB UU b!)
def BZ:Fun:=c_ [0,1,4] f184.ntmps [.tmp 4] aam
def aiI:=fE2 BZ rfl
def arf:fu 184 BZ:=prX aN [] [] (aU ach bC) func184
def U7:=r2 4 0 1 λa b h=>BZ [a,b] h
def aan:Rg:=aB axJ (aB U7 b!)
def Cc:Fun:=c_ [0,1,4] f107.ntmps [.tmp 4] aan
def aiJ:=fE2 Cc rfl
def arh:fu 107 Cc:=prX aN [] [] (aU arf bC) func107
def ajr:=rC 2 (K false)
def ajq:Rg:=λf h=>f 0 λa=>aZ 1 a h λb c=>a! (ss 6 (Y U 0) (ss 5 b f)) c
def ajp:=r2 7 6 5 λa b h=>aH .lss .none a b h
def EH:=rM 3 6
def EG:Rg:=λf h=>f 0 λa=>f 3 λb=>jY a b h λc d=>aH .lss .none c (Y .u8 33) d λi j=>ifB i (a! (ss 25 (K true) f) j) (jY a b j λm n=>aH .gtr .none m (Y .u8 126) n λo p=>ifB o (a! (ss 25 (K true) f) p) (jY a b p λq r=>Cc [H [40,41,123,125,37,42,34,92,93],q] r λs t=>aH .geq .none s (Y U 0) t λu v=>a! (ss 25 u f) v))
def ajo:=r1 6 6 λa h=>aH .add .none a (Y U 1) h
def ajn:=r1 2 0 λa h=>aH .neq .none a (H []) h
def ak7:Rg:=aB ajp (aB (tT 7 a! (Out.ex 0)) (aB (bD 1 (aB EH (aB EG (tT 25 (aB ajr b!) a!)))) ajo))
def ahn:Rg:=aB ajr (aB (aB ajq (bD 0 (dG ak7 lf))) (aB ajn b!))
def wZ:Fun:=c_ [0,2,3,5,6,7,25] f54.ntmps [.tmp 2] ahn
def aye:=fE1 wZ rfl
def ata:fu 54 wZ:=prX aN [] [] (aU arh bC) func54
def zO:=rC 2 .aP
def zN:=r1 4 0 λa h=>aH .eql .slice a .aP h
def J9:Rg:=λf h=>ap9 3 h λa b=>f 0 λc=>bZ 3 1 8 a c b λd i=>a! (ss 2 d f) i
def FM:Rg:=aB zO (aB (aB zN (tT 4 (aB zO b!) a!)) (aB J9 b!))
def yO:Fun:=c_ [0,2,4] f86.ntmps [.tmp 2] FM
def amz:=fE1 yO rfl
def aeI:fu 86 yO:=prX aN [] [] bC func86
def Ko:Rg:=λf h=>ap9 55 h λa b=>f 0 λc=>bZ 55 6 56 a c b λd i=>a! (ss 2 d f) i
def FN:Rg:=aB zO (aB (aB zN (tT 4 (aB zO b!) a!)) (aB Ko b!))
def FO:Fun:=c_ [0,2,4] f53.ntmps [.tmp 2] FN
def amA:=fE1 FO rfl
def atH:fu 53 FO:=prX aN [] [] bC func53
def DW:Rg:=λf h=>ap9 85 h λa b=>f 0 λc=>bZ 85 4 32 a c b λd i=>a! (ss 2 d f) i
def uF:Rg:=aB zO (aB (aB zN (tT 4 (aB zO b!) a!)) (aB DW b!))
def pz:Fun:=c_ [0,2,4] f422.ntmps [.tmp 2] uF
def P7:=fE1 pz rfl
def apr:fu 422 pz:=prX aN [] [] bC func422
def Bg:Rg:=λf h=>ap9 106 h λa b=>f 0 λc=>bZ 106 2 16 a c b λd i=>a! (ss 2 d f) i
def yg:Rg:=aB zO (aB (aB zN (tT 4 (aB zO b!) a!)) (aB Bg b!))
def yA:Fun:=c_ [0,2,4] f100.ntmps [.tmp 2] yg
def ae4:=fE1 yA rfl
def amu:fu 100 yA:=prX aN [] [] bC func100
def Bf:Rg:=λf h=>ap9 9 h λa b=>f 0 λc=>bZ 9 1 16 a c b λd i=>a! (ss 2 d f) i
def yc:Rg:=aB zO (aB (aB zN (tT 4 (aB zO b!) a!)) (aB Bf b!))
def ou:Fun:=c_ [0,2,4] f81.ntmps [.tmp 2] yc
def ae3:=fE1 ou rfl
def Gf:fu 81 ou:=prX aN [] [] bC func81
def DT:Rg:=λf h=>f 0 λa=>aZ 2 a h λb c=>aH .lss .none b (Y U 2) c λd i=>a! (ss 8 d f) i
def Sm:=rM 2 0
def Sj:=rC 3 (Y U 1)
def DR:Rg:=λf h=>f 3 λa=>f 0 λb=>aZ 2 b h λc d=>aH .lss .none a c d λi j=>a! (ss 13 i f) j
def RY:Rg:=λf h=>f 0 λa=>f 3 λb=>aX 1 a b (aK 0 h) λc _=>aF c (aK 0 h) λd _=>f 0 λi=>f 3 λj=>aH .sub .none j (Y U 1) (aK 0 h) λm _=>aX 1 i m (aK 0 h) λn _=>aF n (aK 0 h) λo _=>aH .eql .none d o (aK 0 h) λp _=>a! (ss 25 p f) (aK 0 h)
def RZ:=r1 3 3 λa h=>aH .add .none a (Y U 1) h
def aHp:Rg:=zz
def Eu:Rg:=aB (aB DR (tT 13 a! (Out.ex 0))) (aB (bD 1 (aB RY (tT 25 zz a!))) RZ)
def zW:Rg:=aB zO (aB (aB DT (tT 8 (aB Sm b!) a!)) (aB (aB Sj (bD 0 (dG Eu lf))) (aB Sm b!)))
def o9:Fun:=c_ [0,2,3,4,5,8,13,25,32,44] f88.ntmps [.tmp 2] zW
def P6:=fE1 o9 rfl
def Xi:fu 88 o9:=prX aN [7,8,9,11,12,13,10,14,15] [(6,[0,0,3,7,0,0,32,112,240,511],fU [0,16,32,51,64,80,96,112,131,144])] bC func88
def J4:Rg:=λf h=>f 0 λa=>f 3 λb=>fM 1 a (some b) none none h λc d=>a! (ss 4 c f) d
def J3:=rC 5 (Y U 1)
def qx:Rg:=λf h=>f 5 λa=>f 4 λb=>aZ 2 b h λc d=>aH .lss .none a c d λi j=>a! (ss 32 i f) j
def wF:Rg:=λf h=>f 4 λa=>f 5 λb=>aX 1 a b (aK 0 h) λc _=>aF c (aK 0 h) λd _=>f 4 λi=>f 5 λj=>aH .sub .none j (Y U 1) (aK 0 h) λm _=>aX 1 i m (aK 0 h) λn _=>aF n (aK 0 h) λo _=>aH .neq .none d o (aK 0 h) λp _=>a! (ss 44 p f) (aK 0 h)
def Ie:Rg:=λf h=>f 0 λa=>f 3 λb=>f 4 λc=>f 5 λd=>aX 1 c d h λi j=>aF i j λm n=>aX 1 a b n λo p=>aS 1 o m p λ_ q=>a! f q
def wG:=r1 5 5 λa h=>aH .add .none a (Y U 1) h
def H8:Rg:=λf h=>f 0 λa=>f 3 λb=>fM 1 a (some b) none none h λc d=>Uz [H []] c d λ_ i=>a! f i
def H7:Rg:=λf h=>f 0 λa=>f 3 λb=>fM 1 a none (some b) none h λc d=>a! (ss 2 c f) d
def qC:Rg:=aB (aB qx (tT 32 a! (Out.ex 2))) (aB (bD 3 (aB wF (tT 44 (aB Ie RZ) a!))) wG)
def qE:Rg:=aB (aB DR (tT 13 a! (Out.ex 0))) (aB (bD 1 (aB RY (tT 25 (aB J4 (aB (aB J3 (bD 2 (dG qC lf))) (aB H8 (aB H7 b!)))) a!))) RZ)
def uD:Rg:=aB zO (aB (aB DT (tT 8 (aB Sm b!) a!)) (aB (aB Sj (bD 0 (dG qE lf))) (aB Sm b!)))
def oQ:Fun:=c_ [0,2,3,4,5,8,13,25,32,44] f83.ntmps [.tmp 2] uD
def IE:=fE1 oQ rfl
def ahG:fu 83 oQ:=prX aN [] [(6,[0,0,3,7,0,0,32,112,240,511],fU [0,16,32,51,64,80,96,112,131,144]),(11,[0,0,3,7,0,0,32,112,240,511],fU [0,16,32,51,64,80,96,112,131,144])] bC func83
def ajU:Rg:=λf h=>f 0 λa=>eX 55 a h λb c=>a! (ss 3 (K false) (ss 2 b f)) c
def ajT:Rg:=λf h=>f 2 λa=>aC 0 a h λb c=>aF b c λd i=>f 1 λj=>aF j i λm n=>aH .eql .none d m n λo p=>a! (ss 3 o f) p
def asZ:Rg:=aB ajU (aB ajT b!)
def PY:Fun:=c_ [0,1,2,3] f169.ntmps [.tmp 3] asZ
def ayl:=fE2 PY rfl
def aGR:fu 169 PY:=prX aN [] [] bC func169
def P9:Fun:=c_ [0,1,2,3] f208.ntmps [.tmp 3] asZ
def ayu:=fE2 P9 rfl
def aG4:fu 208 P9:=prX aN [] [] bC func208
def PV:Fun:=c_ [0,1,2,3] f290.ntmps [.tmp 3] asZ
def ayd:=fE2 PV rfl
def aGM:fu 290 PV:=prX aN [] [] bC func290
def yN:Fun:=c_ [0,1,2,3] f301.ntmps [.tmp 3] asZ
def amy:=fE2 yN rfl
def atG:fu 301 yN:=prX aN [] [] bC func301
def kM:FuncId->Option Fun:=pI [(169,PY),(208,P9),(290,PV),(301,yN)]
def LG:Rg:=λf h=>f 0 λa=>aZ 2 a h λb c=>a! (ss 8 (Y U 0) (ss 7 b f)) c
def LD:=r2 9 8 7 λa b h=>aH .lss .none a b h
def LC:=rM 5 8
def Lu:Rg:=λf h=>f 1 λa=>f 0 λb=>f 5 λc=>aX 6 b c h λd i=>bH 6 d i λj m=>dD kM a [j] m λn o=>a! (ss 16 n f) o
def Ls:=rM 4 5
def Lr:=r1 8 8 λa h=>aH .add .none a (Y U 1) h
def Lm:=rC 4 (Y U (-1))
def MB:Rg:=aB LD (aB (tT 9 a! (Out.ex 0)) (aB (bD 1 (aB LC (aB Lu (tT 16 (aB Ls b!) a!)))) Lr))
def Et:Rg:=aB axJ (aB (aB LG (bD 0 (dG MB lf))) (aB Lm b!))
def kN:Fun:=c_ [0,1,4,5,7,8,9,16] f168.ntmps [.tmp 4] Et
def acz:=fE2 kN rfl
def vO:fu 168 kN:=prX aN [] [] (aU aGR (aU aG4 (aU aGM (aU atG bC)))) func168
def aoI:Rg:=λf h=>f 1 λa=>eX 3 a h λb c=>a! (ss 4 (Y U 0) (ss 3 b f)) c
def aoH:Rg:=λf h=>f 0 λa=>aO a h λb c=>aC 10 b c λd i=>aF d i λj m=>f 3 λn=>eP (.func 169) [] [n] m λo p=>kN [j,o] p λq r=>a! (ss 4 q f) r
def axO:Rg:=aB aoI (aB aoH b!)
def Gg:Fun:=c_ [0,1,3,4] f89.ntmps [.tmp 4] axO
def azM:=fE2 Gg rfl
def acf:fu 89 Gg:=prX aN [] [] (aU vO bC) func89
def af7:=rC 4 (K false)
def af6:Rg:=λf h=>f 0 λa=>f 1 λb=>Gg [a,b] (aK 0 h) λc d=>f 0 λi=>aO i d λj _=>aC 10 j d λm _=>aF m d λn _=>chk (λh=>aF m h) n ( aX 6 n c d λo _=>aC 4 o d λp _=>aF p d λq _=>f 0 λr=>aO r d λs _=>aC 0 s d λt _=>aC 5 t d λu _=>aF u d λv _=>chk (λh=>aF u h) v ( aH .gtr .none q v d λw _=>a! (ss 4 w f) d) 1 [(aK 0 h)]) 1 [(aK 0 h)]
def ao9:Rg:=aB af7 (aB af6 b!)
def KQ:Fun:=c_ [0,1,4] f47.ntmps [.tmp 4] ao9
def atI:=fE2 KQ rfl
def aEf:fu 47 KQ:=prX aN [] [(1,[0,1,3,7,0,0,48,127,255,511,0,1024,3072,7168,15360,32767,65535],fU [64,80,98,0,16,32,52,112,128,147,160,176,192,208,228,240,256])] (aU acf bC) func47
def ZG:=rC 3 (K false)
def ZF:Rg:=λf h=>f 1 λa=>aF a h λb c=>f 0 λd=>Gg [b,d] c λi j=>aH .lss .none i (Y U 0) j λm n=>a! (ss 3 m f) n
def ahq:Rg:=aB ZG (aB ZF b!)
def BD:Fun:=c_ [0,1,3] f102.ntmps [.tmp 3] ahq
def apG:=fE2 BD rfl
def ax1:fu 102 BD:=prX aN [] [] (aU acf bC) func102
def qh:FuncId->Option Fun:=pI [(47,KQ),(102,BD)]
def Lc:Rg:=λf h=>f 1 λa=>f 0 λb=>f 5 λc=>aX 1 b c h λd i=>aF d i λj m=>dD qh a [j] m λn o=>a! (ss 16 n f) o
def Me:Rg:=aB LD (aB (tT 9 a! (Out.ex 0)) (aB (bD 1 (aB LC (aB Lc (tT 16 (aB Ls b!) a!)))) Lr))
def Es:Rg:=aB axJ (aB (aB LG (bD 0 (dG Me lf))) (aB Lm b!))
def vS:Fun:=c_ [0,1,4,5,7,8,9,16] f103.ntmps [.tmp 4] Es
def acy:=fE2 vS rfl
def aiG:fu 103 vS:=prX aN [] [] (aU aEf (aU ax1 bC)) func103
def EQ:Rg:=λf h=>f 0 λa=>f 1 λb=>vS [a,b] h λc d=>aH .geq .none c (Y U 0) d λi j=>a! (ss 4 i f) j
def KD:Rg:=aB af7 (aB EQ b!)
def jk:Fun:=c_ [0,1,4] f46.ntmps [.tmp 4] KD
def Wu:=fE2 jk rfl
def KH:fu 46 jk:=prX aN [] [] (aU aiG bC) func46
def ES:Rg:=λf h=>f 0 λa=>f 1 λb=>kN [a,b] h λc d=>aH .geq .none c (Y U 0) d λi j=>a! (ss 4 i f) j
def KE:Rg:=aB af7 (aB ES b!)
def mX:Fun:=c_ [0,1,4] f190.ntmps [.tmp 4] KE
def Wv:=fE2 mX rfl
def acg:fu 190 mX:=prX aN [] [] (aU vO bC) func190
def agk:Rg:=λf h=>f 0 λa=>eX 40 a h λb c=>a! (ss 3 (K false) (ss 2 b f)) c
def apb:Rg:=aB agk (aB ajT b!)
def KR:Fun:=c_ [0,1,2,3] f77.ntmps [.tmp 3] apb
def atK:=fE2 KR rfl
def aEg:fu 77 KR:=prX aN [] [] bC func77
def wK:Fun:=c_ [0,1,2,3] f222.ntmps [.tmp 3] apb
def aiL:=fE2 wK rfl
def ark:fu 222 wK:=prX aN [] [] bC func222
def uz:FuncId->Option Fun:=pI [(77,KR),(222,wK)]
def JE:Rg:=λf h=>f 1 λa=>f 0 λb=>f 5 λc=>aX 8 b c h λd i=>bH 8 d i λj m=>dD uz a [j] m λn o=>a! (ss 16 n f) o
def KL:Rg:=aB LD (aB (tT 9 a! (Out.ex 0)) (aB (bD 1 (aB LC (aB JE (tT 16 (aB Ls b!) a!)))) Lr))
def Bo:Rg:=aB axJ (aB (aB LG (bD 0 (dG KL lf))) (aB Lm b!))
def oP:Fun:=c_ [0,1,4,5,7,8,9,16] f76.ntmps [.tmp 4] Bo
def aau:=fE2 oP rfl
def PN:fu 76 oP:=prX aN [] [] (aU aEg (aU ark bC)) func76
def ag5:Rg:=λf h=>f 0 λa=>wZ [a] h λb c=>ifB b (aZ 1 a c λd i=>aH .leq .none d (Y U 64) i λj m=>ifB j (BI [a] m λn o=>aH .eql .none n a o λp q=>a! (ss 2 p f) q) (a! (ss 2 (K false) f) m)) (a! (ss 2 (K false) f) c)
def apj:Rg:=aB ajr (aB ag5 b!)
def TP:Fun:=c_ [0,2] f80.ntmps [.tmp 2] apj
def atV:=fE1 TP rfl
def aEo:fu 80 TP:=prX aN [] [] (aU ata (aU ahH bC)) func80
def VP:Rg:=λf h=>f 0 λa=>TP [a] h λb c=>oUn .not b c λd i=>a! (ss 2 d f) i
def ab9:Rg:=aB ajr (aB VP b!)
def TQ:Fun:=c_ [0,2] f79.ntmps [.tmp 2] ab9
def aeS:=fE1 TQ rfl
def aEp:fu 79 TQ:=prX aN [] [] (aU aEo bC) func79
def OW:Rg:=λf h=>f 1 λa=>f 0 λb=>f 5 λc=>aX 1 b c h λd i=>aF d i λj m=>aH .eql .none a j m λn o=>a! (ss 16 n f) o
def PO:Rg:=aB LD (aB (tT 9 a! (Out.ex 0)) (aB (bD 1 (aB LC (aB OW (tT 16 (aB Ls b!) a!)))) Lr))
def F6:Rg:=aB axJ (aB (aB LG (bD 0 (dG PO lf))) (aB Lm b!))
def yu:Fun:=c_ [0,1,4,5,7,8,9,16] f85.ntmps [.tmp 4] F6
def ae0:=fE2 yu rfl
def amq:fu 85 yu:=prX aN [] [] bC func85
def G9:Rg:=λf h=>f 0 λa=>f 1 λb=>yu [a,b] h λc d=>aH .geq .none c (Y U 0) d λi j=>a! (ss 4 i f) j
def LZ:Rg:=aB af7 (aB G9 b!)
def kU:Fun:=c_ [0,1,4] f36.ntmps [.tmp 4] LZ
def YM:=fE2 kU rfl
def Md:fu 36 kU:=prX aN [] [] (aU amq bC) func36
def agy:Rg:=λf h=>f 1 λa=>aF a h λb c=>f 0 λd=>kU [b,d] c λi j=>a! (ss 3 i f) j
def apf:Rg:=aB ZG (aB agy b!)
def uK:Fun:=c_ [0,1,3] f256.ntmps [.tmp 3] apf
def atQ:=fE2 uK rfl
def aps:fu 256 uK:=prX aN [] [] (aU Md bC) func256
def kz:FuncId->Option Fun:=pI [(79,TQ),(256,uK)]
def EL:Rg:=λf h=>f 1 λa=>f 0 λb=>f 5 λc=>aX 1 b c h λd i=>aF d i λj m=>dD kz a [j] m λn o=>a! (ss 16 n f) o
def EX:Rg:=aB LD (aB (tT 9 a! (Out.ex 0)) (aB (bD 1 (aB LC (aB EL (tT 16 (aB Ls b!) a!)))) Lr))
def xZ:Rg:=aB axJ (aB (aB LG (bD 0 (dG EX lf))) (aB Lm b!))
def kC:Fun:=c_ [0,1,4,5,7,8,9,16] f163.ntmps [.tmp 4] xZ
def Ws:=fE2 kC rfl
def KG:fu 163 kC:=prX aN [] [] (aU aEp (aU aps bC)) func163
def zL:Rg:=λf h=>f 0 λa=>f 1 λb=>kC [a,b] h λc d=>aH .geq .none c (Y U 0) d λi j=>a! (ss 4 i f) j
def Dv:Rg:=aB af7 (aB zL b!)
def nU:Fun:=c_ [0,1,4] f78.ntmps [.tmp 4] Dv
def RQ:=fE2 nU rfl
def Wq:fu 78 nU:=prX aN [] [] (aU KG bC) func78
def ad1:Rg:=λf h=>f 0 λa=>eX 149 a h λb c=>a! (ss 2 (K false) (ss 1 b f)) c
def adZ:Rg:=λf h=>f 1 λa=>aC 0 a h λb c=>aF b c λd i=>aH .neq .none d (Y U 1) i λj m=>a! (ss 2 j f) m
def ak0:Rg:=aB ad1 (aB adZ b!)
def Fq:Fun:=c_ [0,1,2] f155.ntmps [.tmp 2] ak0
def arC:=fE1 Fq rfl
def azw:fu 155 Fq:=prX aN [] [] bC func155
def uw:FuncId->Option Fun:=pI [(155,Fq)]
def Jv:Rg:=λf h=>f 1 λa=>f 0 λb=>f 5 λc=>aX 3 b c h λd i=>bH 3 d i λj m=>dD uw a [j] m λn o=>a! (ss 16 n f) o
def KJ:Rg:=aB LD (aB (tT 9 a! (Out.ex 0)) (aB (bD 1 (aB LC (aB Jv (tT 16 (aB Ls b!) a!)))) Lr))
def Bl:Rg:=aB axJ (aB (aB LG (bD 0 (dG KJ lf))) (aB Lm b!))
def uI:Fun:=c_ [0,1,4,5,7,8,9,16] f213.ntmps [.tmp 4] Bl
def aat:=fE2 uI rfl
def ahE:fu 213 uI:=prX aN [] [] (aU azw bC) func213
def C9:Rg:=λf h=>f 0 λa=>f 1 λb=>uI [a,b] h λc d=>aH .geq .none c (Y U 0) d λi j=>a! (ss 4 i f) j
def Ip:Rg:=aB af7 (aB C9 b!)
def lJ:Fun:=c_ [0,1,4] f130.ntmps [.tmp 4] Ip
def V9:=fE2 lJ rfl
def aaq:fu 130 lJ:=prX aN [] [] (aU ahE bC) func130
def O9:Rg:=λf h=>f 1 λa=>eX 106 a h λb c=>a! (ss 4 (Y U 0) (ss 3 b f)) c
def O5:Rg:=λf h=>f 3 λa=>bH 2 a (aK 0 h) λb _=>f 0 λc=>f 5 λd=>aX 2 c d (aK 0 h) λi _=>bH 2 i (aK 0 h) λj _=>aia .eql [((.int U),0),((.int U),1)] b j (aK 0 h) λm _=>a! (ss 16 m f) (aK 0 h)
def PS:Rg:=aB LD (aB (tT 9 a! (Out.ex 0)) (aB (bD 1 (aB LC (aB O5 (tT 16 (aB Ls b!) a!)))) Lr))
def F9:Rg:=aB O9 (aB (aB LG (bD 0 (dG PS lf))) (aB Lm b!))
def yw:Fun:=c_ [0,1,3,4,5,7,8,9,16] f324.ntmps [.tmp 4] F9
def ae1:=fE2 yw rfl
def amr:fu 324 yw:=prX aN [] [(4,[0,0,0,6,14,31],fU [3,16,32,48,67,80])] bC func324
def HY:Rg:=λf h=>f 1 λa=>eX 106 a h λb c=>a! (ss 4 (K false) (ss 3 b f)) c
def Hw:Rg:=λf h=>f 0 λa=>f 3 λb=>bH 2 b h λc d=>yw [a,c] d λi j=>aH .geq .none i (Y U 0) j λm n=>a! (ss 4 m f) n
def Mc:Rg:=aB HY (aB Hw b!)
def kV:Fun:=c_ [0,1,3,4] f223.ntmps [.tmp 4] Mc
def YN:=fE2 kV rfl
def aeY:fu 223 kV:=prX aN [] [] (aU amr bC) func223
def Rn:Rg:=λf h=>f 1 λa=>eX 200 a h λb c=>a! (ss 4 (Y U 0) (ss 3 b f)) c
def Rl:Rg:=λf h=>f 0 λa=>aO a h λb c=>aC 4 b c λd i=>aF d i λj m=>a! (ss 8 j f) m
def aeg:Rg:=λf h=>f 3 λa=>aC 1 a h λb c=>aF b c λd i=>a! (ss 4 d f) i
def aef:Rg:=λf h=>f 3 λa=>aC 0 a h λb c=>aF b c λd i=>a! (ss 4 d f) i
def YE:Rg:=aB Rn (aB (aB Rl (tT 8 (aB aeg b!) a!)) (aB aef b!))
def Oy:Fun:=c_ [0,1,3,4,8] f141.ntmps [.tmp 4] YE
def arE:=fE2 Oy rfl
def azy:fu 141 Oy:=prX aN [] [] bC func141
def adY:Rg:=λf h=>f 0 λa=>eX 200 a h λb c=>a! (ss 6 (K false) (ss 5 b f)) c
def adX:Rg:=λf h=>f 1 λa=>aF a h λb c=>ifB b (f 5 λd=>aC 2 d c λi j=>aC 6 i j λm n=>aF m n λo p=>f 2 λq=>aF q p λr s=>aH .gtr .none o r s λt u=>a! (ss 7 t f) u) (a! (ss 7 (K false) f) c)
def adW:=rM 16 7
def adV:=rM 6 7
def akZ:Rg:=aB adY (aB adX (aB (aB adW (tT 16 zz a!)) (aB adV b!)))
def yU:Fun:=c_ [0,1,2,3,4,5,6,7,16] f156.ntmps [.tmp 6] akZ
def arB:=fE5 yU rfl
def ak5:fu 156 yU:=prX aN [3] [] bC func156
def abA:Rg:=λf h=>f 0 λa=>eX 98 a h λb c=>a! (ss 3 (K false) (ss 2 b f)) c
def abz:Rg:=λf h=>f 1 λa=>aF a h λb c=>f 2 λd=>aC 0 d c λi j=>aF i j λm n=>aH .geq .none b m n λo p=>ifB o (aF a p λq r=>aC 1 d r λs t=>aF s t λu v=>aH .leq .none q u v λw x=>a! (ss 3 w f) x) (a! (ss 3 (K false) f) p)
def aml:Rg:=aB abA (aB abz b!)
def V7:Fun:=c_ [0,1,2,3] f329.ntmps [.tmp 3] aml
def azN:=fE2 V7 rfl
def aJI:fu 329 V7:=prX aN [] [] bC func329
def rF:FuncId->Option Fun:=pI [(329,V7)]
def GY:Rg:=λf h=>f 1 λa=>f 0 λb=>f 5 λc=>aX 2 b c h λd i=>bH 2 d i λj m=>dD rF a [j] m λn o=>a! (ss 16 n f) o
def Iz:Rg:=aB LD (aB (tT 9 a! (Out.ex 0)) (aB (bD 1 (aB LC (aB GY (tT 16 (aB Ls b!) a!)))) Lr))
def zf:Rg:=aB axJ (aB (aB LG (bD 0 (dG Iz lf))) (aB Lm b!))
def rG:Fun:=c_ [0,1,4,5,7,8,9,16] f398.ntmps [.tmp 4] zf
def YL:=fE2 rG rfl
def aeX:fu 398 rG:=prX aN [] [] (aU aJI bC) func398
def Ba:Rg:=λf h=>f 0 λa=>f 1 λb=>rG [a,b] h λc d=>aH .geq .none c (Y U 0) d λi j=>a! (ss 4 i f) j
def EU:Rg:=aB af7 (aB Ba b!)
def oH:Fun:=c_ [0,1,4] f328.ntmps [.tmp 4] EU
def TI:=fE2 oH rfl
def YI:fu 328 oH:=prX aN [] [] (aU aeX bC) func328
def asy:Rg:=λf h=>f 1 λa=>eX 3 a h λb c=>a! (ss 4 (K false) (ss 3 b f)) c
def asx:Rg:=λf h=>f 0 λa=>f 3 λb=>eP (.func 329) [] [b] h λc d=>oH [a,c] d λi j=>a! (ss 4 i f) j
def aCF:Rg:=aB asy (aB asx b!)
def aiA:Fun:=c_ [0,1,3,4] f226.ntmps [.tmp 4] aCF
def aEr:=fE2 aiA rfl
def aOA:fu 226 aiA:=prX aN [] [] (aU YI bC) func226
def aj3:Rg:=λf h=>f 0 λa=>eX 200 a h λb c=>a! (ss 4 (K false) (ss 3 b f)) c
def aj2:Rg:=λf h=>f 2 λa=>aF a (aK 0 h) λb _=>f 3 λc=>bH 10 c (aK 0 h) λd _=>Oy [b,d] (aK 0 h) λi j=>f 1 λm=>aF m j λn _=>chk (λh=>aF m h) n ( aiA [n,i] j λo p=>oUn .not o p λq _=>a! (ss 4 q f) p) 1 [(aK 0 h)]
def as2:Rg:=aB aj3 (aB aj2 b!)
def BG:Fun:=c_ [0,1,2,3,4] f225.ntmps [.tmp 4] as2
def ayo:=fE3 BG rfl
def ate:fu 225 BG:=prX aN [] [(1,[0,0,0,6,15,31,63],fU [19,35,50,4,66,80,96])] (aU azy (aU aOA bC)) func225
def aei:Rg:=λf h=>f 0 λa=>eX 200 a h λb c=>a! (ss 3 (K false) (ss 2 b f)) c
def aeh:Rg:=λf h=>f 2 λa=>aC 0 a h λb c=>aF b c λd i=>f 1 λj=>aC 0 j i λm n=>aF m n λo p=>aH .eql .none d o p λq r=>a! (ss 3 q f) r
def ak2:Rg:=aB aei (aB aeh b!)
def Fz:Fun:=c_ [0,1,2,3] f250.ntmps [.tmp 3] ak2
def arF:=fE2 Fz rfl
def azz:fu 250 Fz:=prX aN [] [] bC func250
def jM:FuncId->Option Fun:=pI [(156,yU),(225,BG),(250,Fz)]
def CS:Rg:=λf h=>f 1 λa=>f 0 λb=>f 5 λc=>aX 10 b c h λd i=>bH 10 d i λj m=>dD jM a [j] m λn o=>a! (ss 16 n f) o
def Dw:Rg:=aB LD (aB (tT 9 a! (Out.ex 0)) (aB (bD 1 (aB LC (aB CS (tT 16 (aB Ls b!) a!)))) Lr))
def wI:Rg:=aB axJ (aB (aB LG (bD 0 (dG Dw lf))) (aB Lm b!))
def jP:Fun:=c_ [0,1,4,5,7,8,9,16] f234.ntmps [.tmp 4] wI
def V8:=fE2 jP rfl
def Iu:fu 234 jP:=prX aN [] [] (aU ak5 (aU ate (aU azz bC))) func234
def Jm:Rg:=λf h=>f 0 λa=>eX 250 a h λb c=>a! (ss 3 (K false) (ss 2 b f)) c
def Jl(fr:F)(h:Hp):Out:=
 fr 2 λa=>aC 0 a h λb c=>
 aF b c λd i=>
 fr 1 λj=>aC 0 j i λm n=>
 aF m n λo p=>
 aH .eql .none d o p λq r=>
 ifB q (aC 1 a r λs t=>
 aC 0 s t λu v=>
 aF u v λw x=>
 aC 1 j x λy z=>
 aF y z λe f=>
 aH .eql .none w e f λg k=>
 a! (ss 3 g fr) k) (a! (ss 3 (K false) fr) r)
def RH:Rg:=aB Jm (aB Jl b!)
def yM:Fun:=c_ [0,1,2,3] f178.ntmps [.tmp 3] RH
def amx:=fE2 yM rfl
def atF:fu 178 yM:=prX aN [] [] bC func178
def y8:FuncId->Option Fun:=pI [(178,yM)]
def GI:Rg:=λf h=>f 1 λa=>f 0 λb=>f 5 λc=>aX 9 b c h λd i=>bH 9 d i λj m=>dD y8 a [j] m λn o=>a! (ss 16 n f) o
def Iy:Rg:=aB LD (aB (tT 9 a! (Out.ex 0)) (aB (bD 1 (aB LC (aB GI (tT 16 (aB Ls b!) a!)))) Lr))
def y9:Rg:=aB axJ (aB (aB LG (bD 0 (dG Iy lf))) (aB Lm b!))
def kT:Fun:=c_ [0,1,4,5,7,8,9,16] f177.ntmps [.tmp 4] y9
def YK:=fE2 kT rfl
def aeW:fu 177 kT:=prX aN [] [] (aU atF bC) func177
def uY:FuncId->Option Fun:=pI [(234,jP),(156,yU),(225,BG)]
def mJ:=rC 4 .aP
def mG:=r2 5 0 1 λa b h=>jP [a,b] h
def mF:=r1 12 5 λa h=>aH .eql .none a (Y U (-1)) h
def qW:=rM 4 0
def A7:=r1 6 5 λa h=>aH .add .none a (Y U 1) h
def mD:Rg:=λf h=>f 6 λa=>f 0 λb=>aZ 2 b h λc d=>aH .lss .none a c d λi j=>a! (ss 19 i f) j
def qU:Rg:=λf h=>f 0 λa=>f 6 λb=>aX 10 a b h λc d=>bH 10 c d λi j=>fA 200 [Y U 0,Y U 0,Y U 0,Y U 0,H [],Y U 0,.aP,.aP,Y U 0,Y U 0] j λm n=>aS 10 m i n λ_ o=>a! (ss 7 m f) o
def qR:Rg:=λf h=>f 1 λa=>f 7 λb=>bH 10 b h λc d=>dD uY a [c] d λi j=>oUn .not i j λm n=>a! (ss 29 m f) n
def AZ:Rg:=λf h=>f 0 λa=>f 5 λb=>f 7 λc=>bH 10 c h λd i=>aX 10 a b i λj m=>aS 10 j d m λ_ n=>a! f n
def zJ:Rg:=λf h=>f 0 λa=>f 5 λb=>fM 10 a (some b) none none h λc d=>Uz [Y U 0,Y U 0,Y U 0,Y U 0,H [],Y U 0,.aP,.aP,Y U 0,Y U 0] c d λ_ i=>a! f i
def zI:Rg:=λf h=>f 0 λa=>f 5 λb=>fM 10 a none (some b) none h λc d=>a! (ss 4 c f) d
def mP:Rg:=aB (aB mD (tT 19 a! (Out.ex 0))) (aB (bD 1 (aB qU (aB qR (tT 29 (aB AZ wG) a!)))) ajo)
def kZ:Rg:=aB mJ (aB mG (aB (aB mF (tT 12 (aB qW b!) a!)) (aB (aB A7 (bD 0 (dG mP lf))) (aB zJ (aB zI b!)))))
def jA:Fun:=c_ [0,1,4,5,6,7,12,19,29] f144.ntmps [.tmp 4] kZ
def qF:=fE2 jA rfl
def EW:fu 144 jA:=prX aN [] [] (aU Iu (aU ak5 (aU ate bC))) func144
def AQ:Rg:=λf h=>f 0 λa=>aZ 2 a h λb c=>f 1 λd=>aZ 2 d c λi j=>aH .neq .none b i j λm n=>a! (ss 10 m f) n
def Pq:Rg:=λf h=>f 0 λa=>aZ 2 a h λb c=>a! (ss 13 (Y U 0) (ss 12 b f)) c
def Po:=r2 14 13 12 λa b h=>aH .lss .none a b h
def Pm:=rM 5 13
def Pj:Rg:=λf h=>f 0 λa=>f 5 λb=>aX 1 a b (aK 0 h) λc _=>aF c (aK 0 h) λd _=>f 1 λi=>f 5 λj=>aX 1 i j (aK 0 h) λm _=>aF m (aK 0 h) λn _=>aH .neq .none d n (aK 0 h) λo _=>a! (ss 24 o f) (aK 0 h)
def Pg:=r1 13 13 λa h=>aH .add .none a (Y U 1) h
def Pe:=rC 4 (K true)
def PU:Rg:=aB Po (aB (tT 14 a! (Out.ex 0)) (aB (bD 1 (aB Pm (aB Pj (tT 24 (aB af7 b!) a!)))) Pg))
def x9:Rg:=aB af7 (aB (aB AQ (tT 10 (aB af7 b!) a!)) (aB (aB Pq (bD 0 (dG PU lf))) (aB Pe b!)))
def yx:Fun:=c_ [0,1,4,5,10,12,13,14,24] f33.ntmps [.tmp 4] x9
def ae2:=fE2 yx rfl
def ams:fu 33 yx:=prX aN [] [(6,[0,0,3,7,0,0,48,112,255],fU [0,16,32,51,64,80,96,115,128])] bC func33
def agw:=r1 4 0 λa h=>aH .geq .none a (Y .u64 4294967296) h
def agv:=r1 8 0 λa h=>aH .geq .none a (Y .u64 65536) h
def agu:=r1 14 0 λa h=>aH .geq .none a (Y .u64 256) h
def adL:Rg:=λf h=>f 2 λa=>f 0 λb=>jS .u8 b h λc d=>jY (H [0,1,2,2,3,3,3,3,4,4,4,4,4,4,4,4,5,5,5,5,5,5,5,5,5,5,5,5,5,5,5,5,6,6,6,6,6,6,6,6,6,6,6,6,6,6,6,6,6,6,6,6,6,6,6,6,6,6,6,6,6,6,6,6,7,7,7,7,7,7,7,7,7,7,7,7,7,7,7,7,7,7,7,7,7,7,7,7,7,7,7,7,7,7,7,7,7,7,7,7,7,7,7,7,7,7,7,7,7,7,7,7,7,7,7,7,7,7,7,7,7,7,7,7,7,7,7,7,8,8,8,8,8,8,8,8,8,8,8,8,8,8,8,8,8,8,8,8,8,8,8,8,8,8,8,8,8,8,8,8,8,8,8,8,8,8,8,8,8,8,8,8,8,8,8,8,8,8,8,8,8,8,8,8,8,8,8,8,8,8,8,8,8,8,8,8,8,8,8,8,8,8,8,8,8,8,8,8,8,8,8,8,8,8,8,8,8,8,8,8,8,8,8,8,8,8,8,8,8,8,8,8,8,8,8,8,8,8,8,8,8,8,8,8,8,8,8,8,8,8,8,8,8,8,8,8]) c d λi j=>jS U i j λm n=>aH .add .none a m n λo p=>a! (ss 2 o f) p
def ab7:Rg:=aB akP (aB (aB agw (tT 4 zz a!)) (aB (aB agv (tT 8 zz a!)) (aB (aB agu (tT 14 zz a!)) (aB adL b!))))
def TJ:Fun:=c_ [0,2,4,8,14] f269.ntmps [.tmp 2] ab7
def atO:=fE1 TJ rfl
def aEh:fu 269 TJ:=prX aN [2,3,5,6,8,9] [] bC func269
def aoJ:=r1 2 0 λa h=>TJ [a] h
def axP:Rg:=aB akP (aB (aT (.const (.bool false)) zz a!) (aB aoJ b!))
def NE:Fun:=c_ [0,2] f165.ntmps [.tmp 2] axP
def azO:=fE1 NE rfl
def amv:fu 165 NE:=prX aN [1] [] (aU aEh bC) func165
def Kz:=r1 2 0 λa h=>aH .neq .none a a h
def RI:Rg:=aB ajr (aB Kz b!)
def nK:Fun:=c_ [0,2] f364.ntmps [.tmp 2] RI
def Wj:=fE1 nK rfl
def aeK:fu 364 nK:=prX aN [] [] bC func364
def aag:Rg:=λf h=>f 0 λa=>nK [a] h λb c=>ifB b (f 1 λd=>nK [d] c λi j=>oUn .not i j λm n=>ifB m (a! (ss 4 (K true) f) n) (aH .lss .none a d n λo p=>a! (ss 4 o f) p)) (f 1 λd=>aH .lss .none a d c λo p=>a! (ss 4 o f) p)
def ahz:Rg:=aB af7 (aB aag b!)
def KT:Fun:=c_ [0,1,4] f276.ntmps [.tmp 4] ahz
def apL:=fE2 KT rfl
def ax7:fu 276 KT:=prX aN [] [] (aU aeK bC) func276
def jH:=r1 6 1 λa h=>aH .add .none a (Y U 1) h
def iJ:=r2 12 6 2 λa b h=>aH .lss .none a b h
def tJ:=rM 7 6
def jG:Rg:=λf h=>f 7 λa=>f 1 λb=>aH .gtr .none a b (aK 0 h) λc _=>ifB c (f 0 λd=>f 7 λi=>aX 1 d i (aK 0 h) λj _=>aF j (aK 0 h) λm _=>f 0 λn=>f 7 λo=>aH .sub .none o (Y U 1) (aK 0 h) λp _=>aX 1 n p (aK 0 h) λq _=>aF q (aK 0 h) λr _=>KT [m,r] (aK 0 h) λs t=>a! (ss 30 s f) t) (a! (ss 30 (K false) f) (aK 0 h))
def tC:Rg:=λf h=>f 0 λa=>f 7 λb=>f 0 λc=>f 7 λd=>aH .sub .none d (Y U 1) (aK 0 h) λi _=>aX 1 c i (aK 0 h) λj _=>aF j (aK 0 h) λm _=>f 0 λn=>f 7 λo=>aX 1 n o (aK 0 h) λp _=>aF p (aK 0 h) λq _=>aX 1 a b (aK 0 h) λr _=>aS 1 r m (aK 0 h) λ_ s=>f 0 λt=>f 7 λu=>aH .sub .none u (Y U 1) s λv _=>aX 1 t v s λw _=>aS 1 w q s λ_ x=>a! f x
def tH:=r1 7 7 λa h=>aH .sub .none a (Y U 1) h
def jI:Rg:=aB (aB jG (tT 30 a! (Out.ex 2))) (aB (bD 3 tC) tH)
def iK:Rg:=aB (aB iJ (tT 12 a! (Out.ex 0))) (aB (bD 1 (aB tJ (bD 2 (dG jI lf)))) ajo)
def iC:Rg:=aB jH (bD 0 (dG iK lf))
def iD:Fun:=c_ [0,1,2,6,7,12,30] f270.ntmps [] iC
def rQ:=fE3 iD rfl
def Ny:fu 270 iD:=prX aN [] [(4,[0,0,3,7,15,15,63,127,15,15,527,1807,3855,8191,16383],fU [0,16,32,48,64,80,96,115,128,144,160,176,195,210,224]),(6,[0,0,0,0,8,0,0,64,224,480,0,0,3072,7168,16355,32739,65535,131071],fU [0,16,80,96,112,128,147,160,176,192,211,224,242,32,48,64,256,274])] (aU ax7 bC) func270
def rq:Fun:=c_ [0,2] f360.ntmps [.tmp 2] RI
def ae5:=fE1 rq rfl
def amw:fu 360 rq:=prX aN [] [] bC func360
def SE:Rg:=λf h=>f 0 λa=>rq [a] h λb c=>ifB b (f 1 λd=>rq [d] c λi j=>oUn .not i j λm n=>ifB m (a! (ss 4 (K true) f) n) (aH .lss .none a d n λo p=>a! (ss 4 o f) p)) (f 1 λd=>aH .lss .none a d c λo p=>a! (ss 4 o f) p)
def Xg:Rg:=aB af7 (aB SE b!)
def zY:Fun:=c_ [0,1,4] f265.ntmps [.tmp 4] Xg
def ahQ:=fE2 zY rfl
def apu:fu 265 zY:=prX aN [] [] (aU amw bC) func265
def ja:Rg:=λf h=>f 7 λa=>f 1 λb=>aH .gtr .none a b (aK 0 h) λc _=>ifB c (f 0 λd=>f 7 λi=>aX 1 d i (aK 0 h) λj _=>aF j (aK 0 h) λm _=>f 0 λn=>f 7 λo=>aH .sub .none o (Y U 1) (aK 0 h) λp _=>aX 1 n p (aK 0 h) λq _=>aF q (aK 0 h) λr _=>zY [m,r] (aK 0 h) λs t=>a! (ss 30 s f) t) (a! (ss 30 (K false) f) (aK 0 h))
def jc:Rg:=aB (aB ja (tT 30 a! (Out.ex 2))) (aB (bD 3 tC) tH)
def iw:Rg:=aB (aB iJ (tT 12 a! (Out.ex 0))) (aB (bD 1 (aB tJ (bD 2 (dG jc lf)))) ajo)
def fV:Rg:=aB jH (bD 0 (dG iw lf))
def fZ:Fun:=c_ [0,1,2,6,7,12,30] f259.ntmps [] fV
def qj:=fE3 fZ rfl
def IL:fu 259 fZ:=prX aN [] [(4,[0,0,3,7,15,15,63,127,15,15,527,1807,3855,8191,16383],fU [0,16,32,48,64,80,96,115,128,144,160,176,195,210,224]),(6,[0,0,0,0,8,0,0,64,224,480,0,0,3072,7168,16355,32739,65535,131071],fU [0,16,80,96,112,128,147,160,176,192,211,224,242,32,48,64,256,274])] (aU apu bC) func259
def AP:=rC 8 (K true)
def AO:=rC 9 (K true)
def AL:=r2 10 2 1 λa b h=>aH .sub .none a b h
def AA:=r1 23 10 λa h=>aH .leq .none a (Y U 12) h
def Az:Rg:=λf h=>f 0 λa=>f 1 λb=>f 2 λc=>iD [a,b,c] h λd i=>a! f i
def Bv:Rg:=bD 1 (aB AL (aB (aB AA (tT 23 (aB Az b!) a!)) zz))
def uZ:Rg:=aB AP (aB AO (bD 0 (dG Bv lf)))
def oG:Fun:=c_ [0,1,2,3,8,9,10,11,12,13,14,15,16,17,18,23,29,35,50,68,72,87,113] f167.ntmps [] uZ
def TG:=fE4 oG rfl
def YH:fu 167 oG:=prX aN [5,6,7,8,9,10,11,12,13,14,15,16,17,18,19,20,21,22,23,24,25,26,27,28,29,30] [] (aU Ny bC) func167
def wO:Rg:=λf h=>f 0 λa=>f 1 λb=>f 2 λc=>fZ [a,b,c] h λd i=>a! f i
def wY:Rg:=bD 1 (aB AL (aB (aB AA (tT 23 (aB wO b!) a!)) zz))
def qB:Rg:=aB AP (aB AO (bD 0 (dG wY lf)))
def lK:Fun:=c_ [0,1,2,3,8,9,10,11,12,13,14,15,16,17,18,23,29,35,50,68,72,87,113] f164.ntmps [] qB
def ND:=fE4 lK rfl
def TD:fu 164 lK:=prX aN [5,6,7,8,9,10,11,12,13,14,15,16,17,18,19,20,21,22,23,24,25,26,27,28,29,30] [] (aU IL bC) func164
def Z9:=r1 2 0 λa h=>aZ 2 a h
def Z8:Rg:=λf h=>f 0 λa=>f 2 λb=>jS .u64 b h λc d=>NE [c] d λi j=>oG [a,Y U 0,b,i] j λm n=>a! f n
def ahr:Rg:=aB Z9 Z8
def oO:Fun:=c_ [0,2] f87.ntmps [] ahr
def apH:=fE1 oO rfl
def ahB:fu 87 oO:=prX aN [] [] (aU amv (aU YH bC)) func87
def RU:Rg:=λf h=>f 0 λa=>f 2 λb=>jS .u64 b h λc d=>NE [c] d λi j=>lK [a,Y U 0,b,i] j λm n=>a! f n
def Xf:Rg:=aB Z9 RU
def mQ:Fun:=c_ [0,2] f82.ntmps [] Xf
def ahL:=fE1 mQ rfl
def apo:fu 82 mQ:=prX aN [] [] (aU amv (aU TD bC)) func82
def SN:=r1 5 0 λa h=>nK [a] h
def SL:=r1 6 1 λa h=>nK [a] h
def SK:=rM 11 5
def SI:=rM 13 6
def SH:=r2 16 0 1 λa b h=>aH .lss .none a b h
def PI:=r2 19 0 1 λa b h=>aH .gtr .none a b h
def PG:=rC 4 (Y U 1)
def Xh:Rg:=aB axJ (aB SN (aB SL (aB (aB SK (tT 11 zz a!)) (aB (aB SI (tT 13 zz a!)) (aB (aB SH (tT 16 zz a!)) (aB (aB PI (tT 19 (aB PG b!) a!)) zz))))))
def zZ:Fun:=c_ [0,1,4,5,6,11,12,13,16,19] f285.ntmps [.tmp 4] Xh
def ahR:=fE2 zZ rfl
def apv:fu 285 zZ:=prX aN [4,5,6,8,10,13] [] (aU aeK bC) func285
def Zw:Rg:=λf h=>f 0 λa=>eX 250 a h λb c=>(ss 2 b f) 1 λd=>eX 250 d c λi j=>a! (ss 4 (Y U 0) (ss 3 i (ss 2 b f))) j
def Zu:Rg:=λf h=>f 2 λa=>aC 0 a h λb c=>aF b c λd i=>f 3 λj=>aC 0 j i λm n=>aF m n λo p=>zZ [d,o] p λq r=>a! (ss 4 q f) r
def ahk:Rg:=aB Zw (aB Zu b!)
def qZ:Fun:=c_ [0,1,2,3,4] f284.ntmps [.tmp 4] ahk
def apD:=fE2 qZ rfl
def VW:fu 284 qZ:=prX aN [] [] (aU apv bC) func284
def iH:FuncId->Option Fun:=pI [(284,qZ)]
def zB:Rg:=λf h=>a! (ss 11 (Y U 0) (ss 10 (Y U 0) f)) h
def zA:Rg:=λf h=>f 4 λa=>f 0 λb=>f 2 λc=>aX 9 b c (aK 0 h) λd _=>bH 9 d (aK 0 h) λi _=>f 0 λj=>f 1 λm=>aX 9 j m (aK 0 h) λn _=>bH 9 n (aK 0 h) λo _=>dD iH a [i,o] (aK 0 h) λp q=>aH .lss .none p (Y U 0) q λr _=>a! (ss 22 r f) q
def zu:Rg:=λf h=>f 1 λa=>f 2 λb=>a! (ss 11 b (ss 10 a f)) h
def Du:Rg:=aB zB (aB (aB zA (tT 22 zz a!)) (aB zu b!))
def jf:Fun:=c_ [0,1,2,3,4,10,11,22] f527.ntmps [.tmp 10,.tmp 11] Du
def RN:=fE5 jf rfl
def Wl:fu 527 jf:=prX aN [2,3] [(1,[0,0,0,6,14,0,0,96,224,511,1023],fU [0,16,32,48,67,80,96,112,131,146,160])] (aU VW bC) func527
def zH:=rC 12 (Y U 0)
def zG:Rg:=λf h=>f 0 λa=>f 1 λb=>f 2 λc=>f 4 λd=>f 5 λi=>jf [a,b,c,d,i] h λj m=>bK 0 j m λn o=>bK 1 j o λp q=>a! (ss 2 p (ss 1 n f)) q
def zF:Rg:=λf h=>f 0 λa=>f 2 λb=>f 3 λc=>f 4 λd=>f 5 λi=>jf [a,b,c,d,i] h λj m=>bK 0 j m λn o=>bK 1 j o λp q=>a! (ss 3 p (ss 2 n f)) q
def zC:=rM 12 2
def rZ:Rg:=aB zH (aB zG (aB zF (aB zG (aB zC b!))))
def nT:Fun:=c_ [0,1,2,3,4,5,12] f491.ntmps [.tmp 12] rZ
def RP(x0 a b c d e:V)(h:Hp):nT [x0,a,b,c,d,e] h=bV prog [.tmp 12] (rZ (ss 5 e (ss 4 d (ss 3 c (ss 2 b (ss 1 a (ss 0 x0 T.nil)))))) h):=kR
def Wp:fu 491 nT:=prX aN [] [] (aU Wl bC) func491
def uq:Rg:=λf h=>a! (ss 9 (Y U 0) (ss 8 (Y U 0) f)) h
def um:Rg:=λf h=>fA 3 [Y U 0] h λa b=>a! (ss 11 a f) b
def uj:Rg:=λf h=>f 1 λa=>f 10 λb=>aH .quo .none b (Y U 4) h λc d=>aH .mul .none c (Y U 1) d λi j=>aH .add .none a i j λm n=>a! (ss 12 m f) n
def uh:Rg:=λf h=>f 1 λa=>f 10 λb=>aH .quo .none b (Y U 4) h λc d=>aH .mul .none c (Y U 2) d λi j=>aH .add .none a i j λm n=>a! (ss 13 m f) n
def ug:Rg:=λf h=>f 1 λa=>f 10 λb=>aH .quo .none b (Y U 4) h λc d=>aH .mul .none c (Y U 3) d λi j=>aH .add .none a i j λm n=>a! (ss 14 m f) n
def uf:=r1 34 10 λa h=>aH .geq .none a (Y U 8) h
def tZ:=r1 36 10 λa h=>aH .geq .none a (Y U 50) h
def rP:Rg:=λf h=>f 0 λa=>f 12 λb=>f 13 λc=>f 14 λd=>f 3 λi=>f 11 λj=>nT [a,b,c,d,j,i] h λm n=>a! (ss 13 m f) n
def rO:=r1 55 11 λa h=>aF a h
def rJ:=r1 57 55 λa h=>aH .eql .none a (Y U 0) h
def rH:Rg:=λf h=>f 13 λa=>a! (ss 9 (Y U 1) (ss 8 a f)) h
def wJ:Rg:=aB uq (aB AL (aB um (aB uj (aB uh (aB ug (aB (aB uf (tT 34 (aB (aB tZ (tT 36 zz a!)) rP) a!)) (aB rO (bD 0 (aB rJ (tT 57 (aB rH b!) zz))))))))))
def kD:Fun:=c_ [0,1,2,3,8,9,10,11,12,13,14,34,36,55,57,60] f430.ntmps [.tmp 8,.tmp 9] wJ
def IQ:=fE4 kD rfl
def Nz:fu 430 kD:=prX aN [8,9,10,16,17,13] [] (aU Wp bC) func430
def jK:FuncId->Option Fun:=pI [(284,qZ)]
def nH:=rC 8 (K false)
def nG:=r1 9 1 λa h=>aH .add .none a (Y U 1) h
def nD:=rC 10 (Y U 0)
def nC:=r1 16 10 λa h=>aH .lss .none a (Y U 5) h
def jr:Rg:=λf h=>f 9 λa=>f 2 λb=>aH .lss .none a b (aK 0 h) λc _=>ifB c (f 3 λd=>f 0 λi=>f 9 λj=>aX 9 i j (aK 0 h) λm _=>bH 9 m (aK 0 h) λn _=>f 0 λo=>f 9 λp=>aH .sub .none p (Y U 1) (aK 0 h) λq _=>aX 9 o q (aK 0 h) λr _=>bH 9 r (aK 0 h) λs _=>dD jK d [n,s] (aK 0 h) λt u=>aH .lss .none t (Y U 0) u λv _=>oUn .not v u λw _=>a! (ss 36 w f) u) (a! (ss 36 (K false) f) (aK 0 h))
def ni:=r1 9 9 λa h=>aH .add .none a (Y U 1) h
def mZ:=r2 41 9 2 λa b h=>aH .eql .none a b h
def ny:=r1 10 10 λa h=>aH .add .none a (Y U 1) h
def jv:Rg:=aB (aB jr (tT 36 a! (Out.ex 2))) (bD 3 ni)
def nI:Rg:=aB (aB nC (tT 16 a! (Out.ex 0))) (aB (bD 1 (aB (bD 2 (dG jv lf)) (aB (aB mZ (tT 41 (aB AP b!) a!)) zz))) ny)
def jL:Rg:=aB nH (aB nG (aB (aB nD (bD 0 (dG nI lf))) zz))
def iF:Fun:=c_ [0,1,2,3,8,9,10,11,12,16,36,41,45,65,69,84,104,109,124] f432.ntmps [.tmp 8] jL
def yt:=fE4 iF rfl
def Aa:fu 432 iF:=prX aN [9,10,11,12,13,14,16,17,15,18,19,20,22,23,21,24] [(5,[0,0,3,7,15,15,15,111,239,15,15,1039,3599,7695,16383,32767,65535,131071],fU [0,16,32,48,64,80,96,112,131,144,160,176,192,211,226,240,256,272])] (aU VW bC) func432
def mM:FuncId->Option Fun:=pI [(284,qZ)]
def qQ:=r1 8 1 λa h=>aH .add .none a (Y U 1) h
def lG:=r2 14 8 2 λa b h=>aH .lss .none a b h
def qP:=rM 9 8
def qO:Rg:=λf h=>f 9 λa=>f 1 λb=>aH .gtr .none a b (aK 0 h) λc _=>ifB c (f 3 λd=>f 0 λi=>f 9 λj=>aX 9 i j (aK 0 h) λm _=>bH 9 m (aK 0 h) λn _=>f 0 λo=>f 9 λp=>aH .sub .none p (Y U 1) (aK 0 h) λq _=>aX 9 o q (aK 0 h) λr _=>bH 9 r (aK 0 h) λs _=>dD mM d [n,s] (aK 0 h) λt u=>aH .lss .none t (Y U 0) u λv _=>a! (ss 34 v f) u) (a! (ss 34 (K false) f) (aK 0 h))
def qY:Rg:=aB (aB qO (tT 34 a! (Out.ex 2))) zz
def lH:Rg:=aB (aB lG (tT 14 a! (Out.ex 0))) (aB (bD 1 (aB qP (bD 2 (dG qY lf)))) Lr)
def mO:Rg:=aB qQ (bD 0 (dG lH lf))
def jJ:Fun:=c_ [0,1,2,3,8,9,14,34] f427.ntmps [] mO
def E8:=fE4 jJ rfl
def KF:fu 427 jJ:=prX aN [6,5] [(4,[0,0,3,7,15,15,15,111,239,15,15,1039,3599,7695,16383,32767,65535],fU [0,16,32,48,64,80,96,112,131,144,160,176,192,211,226,240,256])] (aU VW bC) func427
def yL:=rC 10 (K true)
def yK:=rC 11 (K true)
def pO:=r2 12 2 1 λa b h=>aH .sub .none a b h
def pK:=r1 25 12 λa h=>aH .leq .none a (Y U 12) h
def yJ:Rg:=λf h=>f 0 λa=>f 1 λb=>f 2 λc=>f 4 λd=>jJ [a,b,c,d] h λi j=>a! f j
def yI:=r1 32 3 λa h=>aH .eql .none a (Y U 0) h
def yH:=r1 39 10 λa h=>oUn .not a h
def wX:Rg:=λf h=>f 0 λa=>f 1 λb=>f 2 λc=>f 4 λd=>kD [a,b,c,d] h λi j=>bK 0 i j λm n=>bK 1 i n λo p=>a! (ss 14 o (ss 13 m f)) p
def wW:=r1 56 14 λa h=>aH .eql .none a (Y U 2) h
def wV:Rg:=λf h=>f 10 λa=>ifB a (f 11 λb=>ifB b (f 14 λc=>aH .eql .none c (Y U 1) h λd i=>a! (ss 75 d f) i) (a! (ss 75 (K false) f) h)) (a! (ss 75 (K false) f) h)
def wU:Rg:=λf h=>f 0 λa=>f 1 λb=>f 2 λc=>f 4 λd=>iF [a,b,c,d] h λi j=>a! (ss 80 i f) j
def pR:Rg:=bD 1 (aB pO (aB (aB pK (tT 25 (aB yJ b!) a!)) (aB (aB yI (tT 32 zz a!)) (aB (aB yH (tT 39 zz a!)) (aB wX (aB (aB wW (tT 56 zz a!)) (aB (aB wV (tT 75 (aB wU (tT 80 b! a!)) a!)) zz)))))))
def qX:Rg:=aB yL (aB yK (bD 0 (dG pR lf)))
def mV:Fun:=c_ [0,1,2,3,4,10,11,12,13,14,15,16,17,18,19,20,25,32,39,56,75,80,97,125] f368.ntmps [] qX
def PZ:=fE5 mV rfl
def VX:fu 368 mV:=prX aN [6,8,9,12,13,14,17,18,19,20,21,22,23,24,25,26,27,28,29,30] [] (aU KF (aU Nz (aU Aa bC))) func368
def Jp:=r1 4 0 λa h=>aZ 2 a h
def Jo:Rg:=λf h=>f 0 λa=>f 4 λb=>jS .u64 b h λc d=>NE [c] d λi j=>f 1 λm=>mV [a,Y U 0,b,i,m] j λn o=>a! f o
def PK:Rg:=aB Jp Jo
def uG:Fun:=c_ [0,1,4] f283.ntmps [] PK
def aar:=fE2 uG rfl
def ahC:fu 283 uG:=prX aN [] [] (aU amv (aU VX bC)) func283
def YB:Rg:=λf h=>a! (ss 3 (Y U 0) (ss 2 .aP f)) h
def YA:=r1 6 0 λa h=>nU [a,(.func (.func 79) .nil .nil)] h
def Yz:=r1 4 0 λa h=>ou [a] h
def Yy:Rg:=λf h=>f 4 λa=>mQ [a] h λb c=>a! f c
def Yx:=r1 4 4 λa h=>oQ [a] h
def Yw:Rg:=λf h=>f 4 λa=>aZ 2 a h λb c=>aH .gtr .none b (Y U 16) c λd i=>a! (ss 15 d f) i
def Yv:Rg:=λf h=>f 4 λa=>a! (ss 3 (Y U 0) (ss 2 a f)) h
def ahy:Rg:=aB YB (aB (aB YA (tT 6 zz a!)) (aB Yz (aB Yy (aB Yx (aB (aB Yw (tT 15 zz a!)) (aB Yv b!))))))
def IJ:Fun:=c_ [0,2,3,4,6,15] f32.ntmps [.tmp 2,.tmp 3] ahy
def ahP:=fE1 IJ rfl
def atg:fu 32 IJ:=prX aN [2,7] [] (aU Wq (aU Gf (aU apo (aU ahG bC)))) func32
def ao1:=r1 9 0 λa h=>aH .eql (.ptr 3) a .dn h
def ao0:Rg:=λf h=>f 1 λa=>aZ 2 a h λb c=>a! (ss 12 (Y U 0) (ss 11 b (ss 10 a f))) c
def aoZ:=r2 13 12 11 λa b h=>aH .lss .none a b h
def abI:Rg:=λf h=>f 10 λa=>f 12 λb=>aX 4 a b h λc d=>bH 4 c d λi j=>fA 85 [Y U 0,Y U 0,Y U 0,Y U 0] j λm n=>aS 4 m i n λ_ o=>a! (ss 5 m f) o
def abH:Rg:=λf h=>f 0 λa=>aO a h λb c=>aC 1 b c λd i=>aF d i λj m=>aZ 2 j m λn o=>a! (ss 6 n f) o
def abG:Rg:=λf h=>f 6 λa=>aH .gtr .none a (Y U 0) (aK 0 h) λb _=>ifB b (f 5 λc=>aC 0 c (aK 0 h) λd _=>aF d (aK 0 h) λi _=>f 0 λj=>aO j (aK 0 h) λm _=>aC 1 m (aK 0 h) λn _=>aF n (aK 0 h) λo _=>f 6 λp=>aH .sub .none p (Y U 1) (aK 0 h) λq _=>aX 4 o q (aK 0 h) λr _=>aC 0 r (aK 0 h) λs _=>aF s (aK 0 h) λt _=>aH .lss .none i t (aK 0 h) λu _=>a! (ss 36 u f) (aK 0 h)) (a! (ss 36 (K false) f) (aK 0 h))
def abE(fr:F)(h:Hp):Out:=
 fr 0 λa=>aO a (aK 1 h) λb _=>
 aC 1 b (aK 1 h) λc _=>
 aF c (aK 1 h) λd _=>
 fr 5 λi=>bH 4 i (aK 1 h) λj _=>
 Aw (eH 85 [Y U 0,Y U 0,Y U 0,Y U 0] 1 [(0,4,j)]) λf e=>
 bZ 85 4 32 d (e (Hp.next h)) (Hp.put (aK 1 h) (Hp.next h) (some f)) λm n=>
 fr 0 λo=>aO o n λp _=>
 aC 1 p n λq _=>
 aS 1 q m n λ_ r=>
 a! fr r
def aoY:=r1 12 12 λa h=>aH .add .none a (Y U 1) h
def aoX:Rg:=λf h=>f 0 λa=>aO a (aK 0 h) λb _=>aC 1 b (aK 0 h) λc _=>aF c (aK 0 h) λd _=>aZ 2 d (aK 0 h) λi _=>f 0 λj=>aO j (aK 0 h) λm _=>aC 0 m (aK 0 h) λn _=>aF n (aK 0 h) λo _=>aH .sub .none i o (aK 0 h) λp _=>a! (ss 7 p f) (aK 0 h)
def aoW:=r1 59 7 λa h=>aH .gtr .none a (Y U 0) h
def apB:Rg:=aB aoZ (aB (tT 13 a! (Out.ex 0)) (aB (bD 1 (aB abI (aB (aB abH (aB abG (tT 36 (Out.ex 0) a!))) abE))) aoY))
def amn:Rg:=aB (aB ao1 (tT 9 b! a!)) (aB (aB ao0 (bD 0 (dG apB lf))) (aB aoX (aB aoW (tT 59 zz a!))))
def NH:Fun:=c_ [0,1,5,6,7,9,10,11,12,13,36,59] f38.ntmps [] amn
def azS:=fE2 NH rfl
def ax4:fu 38 NH:=prX aN [10,11] [(5,[0,1,3,7,15,7,39,103,231,7,519,2023,4071,8167,16383,32767],fU [0,16,32,48,67,80,96,112,131,144,160,176,192,211,224,240]),(6,[0,0,2,6,14,0,32,126,255,511,1023],fU [16,32,48,67,83,97,114,0,128,144,162]),(8,[0,1,3,7,15,0,32,96,224,511,1023],fU [0,16,32,51,64,80,96,112,131,144,160])] bC func38
def ajZ:=rC 2 .dn
def ajY:=r1 5 0 λa h=>aH .eql (.ptr 3) a .dn h
def ajX:Rg:=λf h=>f 0 λa=>aO a h λb c=>bH 3 b c λd i=>fA 130 [Y U 0,.aP,Y U 0] i λj m=>aS 3 j d m λ_ n=>a! (ss 3 j f) n
def ajW:Rg:=λf h=>f 0 λa=>aO a h λb c=>aC 1 b c λd i=>aF d i λj m=>pz [j] m λn o=>f 3 λp=>aC 1 p o λq r=>aS 1 q n r λ_ s=>a! f s
def ajV:=rM 2 3
def as1:Rg:=aB ajZ (aB (aB ajY (tT 5 zz a!)) (aB ajX (aB ajW (aB ajV b!))))
def Xo:Fun:=c_ [0,2,3,5] f353.ntmps [.tmp 2] as1
def aym:=fE1 Xo rfl
def aGW:fu 353 Xo:=prX aN [2] [] (aU apr bC) func353
def agp:=r1 4 0 λa h=>aH .eql (.ptr 16) a .dn h
def agn:Rg:=λf h=>f 0 λa=>aO a h λb c=>aC 9 b c λd i=>xg [d] i λj m=>a! (ss 2 j f) m
def apc:Rg:=aB akP (aB (aB agp (tT 4 zz a!)) (aB agn b!))
def yh:Fun:=c_ [0,2,4] f19.ntmps [.tmp 2] apc
def atL:=fE1 yh rfl
def ace:fu 19 yh:=prX aN [2] [] (aU Xj bC) func19
def agr:Rg:=λf h=>f 0 λa=>aO a h λb c=>aC 10 b c λd i=>aF d i λj m=>FO [j] m λn o=>a! (ss 2 n f) o
def apd:Rg:=aB zO (aB (aB agp (tT 4 zz a!)) (aB agr b!))
def yj:Fun:=c_ [0,2,4] f24.ntmps [.tmp 2] apd
def atM:=fE1 yj rfl
def TB:fu 24 yj:=prX aN [2] [] (aU atH bC) func24
def adD:Rg:=λf h=>f 0 λa=>eX 40 a h λb c=>fA 40 [Y U 0,Y U 0,H [],Y U 0,.aP,.aP,Y U 0,Y U 0] c λd i=>a! (ss 2 d (ss 1 b f)) i
def adC:Rg:=λf h=>f 1 λa=>aC 4 a (aK 0 h) λb _=>aF b (aK 0 h) λc _=>ou [c] (aK 0 h) λd i=>f 1 λj=>aC 5 j i λm _=>aF m i λn _=>chk (λh=>aF m h) n ( yA [n] i λo p=>f 1 λq=>aC 4 q p λr _=>aS 1 r d p λ_ s=>f 1 λt=>aC 5 t s λu _=>aS 1 u o s λ_ v=>a! f v) 1 [(aK 0 h)]
def adB:Rg:=λf h=>f 1 λa=>bH 8 a h λb c=>f 2 λd=>aS 8 d b c λ_ i=>a! f i
def akX:Rg:=aB adD (aB adC (aB adB b!))
def Ou:Fun:=c_ [0,1,2] f43.ntmps [.cell 2 40] akX
def arw:=fE1 Ou rfl
def azr:fu 43 Ou:=prX aN [] [(1,[0,1,3,0,8,31,31,127,255,511],fU [0,19,34,48,68,82,96,114,128,146])] (aU Gf (aU amu bC)) func43
def agh:=r1 7 0 λa h=>aH .eql (.ptr 16) a .dn h
def agf:=rC 3 .aP
def agd:Rg:=λf h=>f 0 λa=>aO a h λb c=>aC 11 b c λd i=>aF d i λj m=>aZ 2 j m λn o=>a! (ss 13 (Y U 0) (ss 12 n (ss 11 j f))) o
def agb:Rg:=λf h=>f 11 λa=>f 13 λb=>aX 8 a b h λc d=>bH 8 c d λi j=>fA 40 [Y U 0,Y U 0,H [],Y U 0,.aP,.aP,Y U 0,Y U 0] j λm n=>aS 8 m i n λ_ o=>a! (ss 5 m f) o
def aga:Rg:=λf h=>f 3 λa=>f 5 λb=>bH 8 b h λc d=>Ou [c] d λi j=>bU 40 [Y U 0,Y U 0,H [],Y U 0,.aP,.aP,Y U 0,Y U 0] 1 [(0,8,i)] j λm n=>bZ 40 8 104 a m n λo p=>a! (ss 3 o f) p
def ahI:Rg:=aB Po (aB (tT 14 a! (Out.ex 0)) (aB (bD 1 (aB agb aga)) Pg))
def apa:Rg:=aB zO (aB (aB agh (tT 7 zz a!)) (aB agf (aB (aB agd (bD 0 (dG ahI lf))) (aB ajV b!))))
def Cb:Fun:=c_ [0,2,3,5,7,11,12,13,14] f15.ntmps [.tmp 2] apa
def atJ:=fE1 Cb rfl
def acd:fu 15 Cb:=prX aN [2] [] (aU azr bC) func15
def ajK:Rg:=λf h=>f 0 λa=>aO a h λb c=>aC 11 b c λd i=>aF d i λj m=>f 3 λn=>eP (.func 77) [] [n] m λo p=>oP [j,o] p λq r=>a! (ss 4 q f) r
def asW:Rg:=aB aoI (aB ajK b!)
def Xn:Fun:=c_ [0,1,3,4] f31.ntmps [.tmp 4] asW
def ayi:=fE2 Xn rfl
def aGP:fu 31 Xn:=prX aN [] [] (aU PN bC) func31
def ajM:Rg:=λf h=>f 0 λa=>yh [a] (aK 0 h) λb c=>f 0 λd=>aO d c λi _=>aC 0 i c λj _=>aC 6 j c λm _=>aF m c λn _=>chk (λh=>aF m h) n ( aH .geq .none b n c λo _=>a! (ss 2 o f) c) 1 [(aK 0 h)]
def asX:Rg:=aB ajr (aB ajM b!)
def PX:Fun:=c_ [0,2] f34.ntmps [.tmp 2] asX
def ayj:=fE1 PX rfl
def atc:fu 34 PX:=prX aN [] [(1,[0,1,0,4,12,28,60,127,255],fU [0,18,32,48,64,80,100,112,128])] (aU ace bC) func34
def adq:=rC 6 .aP
def adp:=r1 7 2 λa h=>yO [a] h
def ado:Rg:=λf h=>f 7 λa=>oO [a] h λb c=>a! f c
def adn:=rC 8 .aP
def adl:Rg:=λf h=>f 7 λa=>o9 [a] h λb c=>aZ 2 b c λd i=>a! (ss 18 (Y U 0) (ss 17 d (ss 16 b f))) i
def adk:=r2 19 18 17 λa b h=>aH .lss .none a b h
def adi:Rg:=λf h=>f 16 λa=>f 18 λb=>aX 1 a b h λc d=>aF c d λi j=>a! (ss 10 i f) j
def adh:Rg:=λf h=>f 0 λa=>f 10 λb=>Gg [a,b] (aK 0 h) λc d=>f 0 λi=>aO i d λj _=>aC 10 j d λm _=>aF m d λn _=>chk (λh=>aF m h) n ( f 1 λo=>aX 6 n c d λp _=>aC 5 p d λq _=>aS 1 q o d λ_ r=>a! f r) 1 [(aK 0 h)]
def adg:Rg:=λf h=>f 8 λa=>f 1 λb=>f 10 λc=>bW [Y U 0,Y U 0,Y U 0,Y U 0] [(0,1,b),(1,1,(Y U 1)),(2,1,c),(3,1,(Y U 2))] h λd i=>bU 85 [Y U 0,Y U 0,Y U 0,Y U 0] 1 [(0,4,d)] i λj m=>bZ 85 4 32 a j m λn o=>a! (ss 8 n f) o
def adf:=r1 18 18 λa h=>aH .add .none a (Y U 1) h
def ZH:Rg:=λf h=>f 8 λa=>aZ 2 a h λb c=>aZ 2 a c λd i=>fM 4 a none (some b) (some d) i λj m=>a! (ss 6 j f) m
def aeO:Rg:=aB adk (aB (tT 19 a! (Out.ex 0)) (aB (bD 1 (aB adi (aB adh adg))) adf))
def akU:Rg:=aB adq (aB adp (aB ado (aB adn (aB (aB adl (bD 0 (dG aeO lf))) (aB ZH b!)))))
def EZ:Fun:=c_ [0,1,2,6,7,8,10,16,17,18,19] f39.ntmps [.tmp 6] akU
def ars:=fE3 EZ rfl
def ak4:fu 39 EZ:=prX aN [] [(7,[0,1,3,7,0,0,48,0,255,511,1023],fU [64,80,98,0,16,32,52,112,128,144,162])] (aU aeI (aU ahB (aU Xi (aU acf bC)))) func39
def ajF:Rg:=λf h=>f 0 λa=>aO a h λb c=>aC 9 b c λd i=>aax [d,Y U 1] i λj m=>a! (ss 2 j f) m
def asV:Rg:=aB akP (aB ajF b!)
def PW:Fun:=c_ [0,2] f35.ntmps [.tmp 2] asV
def ayh:=fE1 PW rfl
def atb:fu 35 PW:=prX aN [] [] (aU aG7 bC) func35
def ade:Rg:=λf h=>f 0 λa=>eX 24 a h λb c=>a! (ss 5 (K false) (ss 4 .aP (ss 2 b f))) c
def adb:=r1 6 1 λa h=>yO [a] h
def ada:Rg:=λf h=>f 6 λa=>oO [a] h λb c=>a! f c
def ac9:=r1 6 6 λa h=>o9 [a] h
def ac8:Rg:=λf h=>f 6 λa=>f 2 λb=>eP (.func 102) [] [b] h λc d=>jk [a,c] d λi j=>oUn .not i j λm n=>a! (ss 5 m (ss 4 a f)) n
def akT:Rg:=aB ade (aB adb (aB ada (aB ac9 (aB ac8 b!))))
def Oo:Fun:=c_ [0,1,2,4,5,6] f45.ntmps [.tmp 4,.tmp 5] akT
def arq:=fE2 Oo rfl
def azo:fu 45 Oo:=prX aN [] [] (aU aeI (aU ahB (aU Xi (aU KH bC)))) func45
def adA:Rg:=λf h=>fA 106 [Y U 0,Y U 0] h λa b=>a! (ss 4 a f) b
def adz:Rg:=λf h=>f 0 λa=>f 1 λb=>Gg [a,b] (aK 0 h) λc d=>f 0 λi=>aO i d λj _=>aC 10 j d λm _=>aF m d λn _=>chk (λh=>aF m h) n ( aX 6 n c d λo _=>a! (ss 5 o f) d) 1 [(aK 0 h)]
def ady:Rg:=λf h=>f 5 λa=>aO a h λb c=>aC 4 b c λd i=>aF d i λj m=>aH .add .none j (Y U 1) m λn o=>aO a o λp q=>aC 4 p q λr s=>aS 1 r n s λ_ t=>a! f t
def adx:Rg:=λf h=>f 1 λa=>f 5 λb=>aO b h λc d=>aC 4 c d λi j=>aF i j λm n=>aH .sub .none m (Y U 1) n λo p=>bW [Y U 0,Y U 0] [(0,1,a),(1,1,o)] p λq r=>f 4 λs=>aS 2 s q r λ_ t=>a! f t
def akW:Rg:=aB adA (aB adz (aB ady (aB adx b!)))
def Ot:Fun:=c_ [0,1,4,5] f49.ntmps [.cell 4 106] akW
def arv:=fE2 Ot rfl
def azq:fu 49 Ot:=prX aN [] [(1,[0,1,3,7,0,0,48,127,255],fU [64,80,98,0,16,32,52,112,128])] (aU acf bC) func49
def ac7:Rg:=λf h=>f 0 λa=>eX 40 a h λb c=>a! (ss 2 .aP (ss 1 b f)) c
def ac5:Rg:=λf h=>f 1 λa=>aC 5 a h λb c=>aF b c λd i=>aZ 2 d i λj m=>a! (ss 9 (Y U 0) (ss 8 j (ss 7 d f))) m
def ac4:=r2 10 9 8 λa b h=>aH .lss .none a b h
def ac3:Rg:=λf h=>f 7 λa=>f 9 λb=>aX 2 a b h λc d=>bH 2 c d λi j=>fA 106 [Y U 0,Y U 0] j λm n=>aS 2 m i n λ_ o=>a! (ss 5 m f) o
def ac2:Rg:=λf h=>f 3 λa=>f 5 λb=>aC 0 b h λc d=>aF c d λi j=>bU 3 [Y U 0] 1 [(0,1,i)] j λm n=>bZ 3 1 8 a m n λo p=>a! (ss 3 o f) p
def aeN:Rg:=aB ac4 (aB (tT 10 a! (Out.ex 0)) (aB (bD 1 (aB ac3 ac2)) ni))
def akS:Rg:=aB ac7 (aB agf (aB (aB ac5 (bD 0 (dG aeN lf))) (aB ajV b!)))
def EY:Fun:=c_ [0,1,2,3,5,7,8,9,10] f37.ntmps [.tmp 2] akS
def arp:=fE1 EY rfl
def azn:fu 37 EY:=prX aN [] [] bC func37
def Ol:=rC 6 (Y U 0)
def Oj:=r1 14 0 λa h=>aH .eql (.ptr 16) a .dn h
def Oi:=r2 7 0 1 λa b h=>Xn [a,b] h
def Oh:=r1 19 7 λa h=>aH .lss .none a (Y U 0) h
def Og:Rg:=λf h=>f 2 λa=>IJ [a] h λb c=>bK 0 b c λd i=>bK 1 b i λj m=>a! (ss 9 j (ss 8 d f)) m
def Oe:=r1 25 9 λa h=>aH .neq .none a (Y U 0) h
def Oa:Rg:=λf h=>f 8 λa=>f 0 λb=>aO b h λc d=>aC 11 c d λi j=>aF i j λm n=>f 7 λo=>aX 8 m o n λp q=>aC 4 p q λr s=>aF r s λt u=>yx [a,t] u λv w=>a! (ss 29 v f) w
def U6:=r1 40 0 λa h=>PX [a] h
def U5:=r1 10 0 λa h=>PW [a] h
def U4:Rg:=λf h=>f 0 λa=>aO a h λb c=>aC 11 b c λd i=>aF d i λj m=>f 7 λn=>aX 8 j n m λo p=>a! (ss 11 o f) p
def U3:=rC 12 .aP
def U2:Rg:=λf h=>f 8 λa=>kU [a,H [36,115,101,101,110]] (aK 0 h) λb c=>f 11 λd=>aO d c λi _=>aC 4 i c λj _=>aF j c λm _=>chk (λh=>aF j h) m ( kU [m,H [36,115,101,101,110]] c λn o=>aH .neq .bool b n o λp _=>a! (ss 58 p f) o) 1 [(aK 0 h)]
def agl:Rg:=λf h=>f 11 λa=>aO a h λb c=>bH 8 b c λd i=>EY [d] i λj m=>a! (ss 12 j f) m
def UZ:Rg:=λf h=>f 11 λa=>f 8 λb=>f 10 λc=>aO a h λd i=>aC 4 d i λj m=>aS 1 j b m λ_ n=>aO a n λo p=>aC 6 o p λq r=>aS 1 q c r λ_ s=>a! f s
def UY(fr:F)(h:Hp):Out:=
 fr 0 λa=>fr 10 λb=>fr 12 λc=>EZ [a,b,c] (aK 1 h) λd i=>
 fr 10 λj=>fr 1 λm=>bW [Y U 0,Y U 0,Y U 0,Y U 0] [(0,1,j),(1,1,(Y U 2)),(2,1,m),(3,1,(Y U 2))] i λn _=>
 Aw (eH 85 [Y U 0,Y U 0,Y U 0,Y U 0] 1 [(0,4,n)]) λf e=>
 bZ 85 4 32 d (e (Hp.next h)) (Hp.put i (Hp.next h) (some f)) λo p=>
 fr 0 λq=>aO q p λr _=>
 aC 12 r p λs _=>
 aF s p λt _=>chk (λh=>aF s h) t (
 NH [t,o] p λu v=>
 a! fr v) 2 [i,(aK 1 h)]
def Xe:Rg:=aB Ol (aB (aB Oj (tT 14 zz a!)) (aB Oi (aB (aB Oh (tT 19 zz a!)) (aB Og (aB (bD 0 (aB Oe (tT 25 zz (aB Oa (tT 29 (aB Ol b!) (aB U6 (tT 40 zz a!))))))) (aB U5 (aB U4 (aB U3 (aB (aB U2 (tT 58 agl a!)) (aB UZ (aB UY (aB Ol b!))))))))))))
def BF:Fun:=c_ [0,1,2,6,7,8,9,10,11,12,14,19,25,29,40,58] f11.ntmps [.tmp 6] Xe
def ahJ:=fE3 BF rfl
def aGQ:fu 11 BF:=prX aN [2,5,8,12] [(16,[0,1,0,4,12,28,63,127],fU [0,18,32,48,64,84,98,112]),(19,[0,1,3,7,0,0,0,112,0,0,768,1792,4080,8191],fU [64,80,96,114,128,144,160,177,194,0,16,32,53,210])] (aU aGP (aU atg (aU ams (aU atc (aU atb (aU Md (aU azn (aU ak4 (aU ax4 bC))))))))) func11
def ajR:=r1 5 0 λa h=>aH .eql (.ptr 16) a .dn h
def ajQ(fr:F)(h:Hp):Out:=
 fr 0 λa=>yj [a] (aK 1 h) λb c=>
 fr 0 λd=>Cb [d] c λi j=>
 fr 0 λm=>aO m j λn _=>
 aC 12 n j λo _=>
 aF o j λp _=>chk (λh=>aF o h) p (
 Xo [p] j λq r=>
 fr 0 λs=>aO s r λt _=>
 aC 0 t r λu _=>
 bH 9 u r λv _=>chk (λh=>bH 9 u h) v (
 fr 0 λw=>aO w r λx _=>
 aC 13 x r λy _=>
 aF y r λz _=>chk (λh=>aF y h) z (
 fr 0 λC=>aO C r λE _=>
 aC 14 E r λg _=>
 aF g r λk _=>chk (λh=>aF g h) k (
 fr 0 λG=>aO G r λI _=>
 aC 15 I r λl _=>
 aF l r λB _=>chk (λh=>aF l h) B (
 bW [H [],H [],Y U 0,Y U 0,Y U 0,Y U 0,Y U 0,Y U 0,Y U 0,Y U 0,.aP,.aP,.dn,Y U 0,Y U 0,Y U 0] [(0,9,v),(10,1,b),(11,1,i),(12,1,q),(13,1,z),(14,1,k),(15,1,B)] r λJ _=>
 Aw (alN 78 J) λf e=>
 a! (ss 3 (e (Hp.next h)) fr) (Hp.put r (Hp.next h) (some f))) 3 [j,c,(aK 1 h)]) 3 [j,c,(aK 1 h)]) 3 [j,c,(aK 1 h)]) 3 [j,c,(aK 1 h)]) 2 [c,(aK 1 h)]
def ajP:Rg:=λf h=>f 0 λa=>aO a (aK 0 h) λb _=>aC 9 b (aK 0 h) λc _=>xg [c] (aK 0 h) λd i=>f 3 λj=>aO j i λm _=>aC 9 m i λn _=>kE [n,d] i λo p=>a! f p
def asY:Rg:=aB ajZ (aB (aB ajR (tT 5 zz a!)) (aB ajQ (aB ajP (aB ajV b!))))
def IC:Fun:=c_ [0,2,3,5] f252.ntmps [.tmp 2] asY
def ayk:=fE1 IC rfl
def atd:fu 252 IC:=prX aN [2] [(3,[0,1,3,7,0,16,0,112,0,256,768,1792,4080,0,8192,24576,57344,0,131072,393216,917504,0,2097152,6291456,14680064,33554431,67108863,134217727],fU [64,82,96,114,128,144,160,181,194,0,16,32,54,208,224,240,262,272,288,304,326,336,352,368,390,400,417,432]),(4,[0,1,3,0,8,24,56,127],fU [48,64,80,98,0,16,32,114])] (aU TB (aU acd (aU aGW (aU Xj (aU BX bC))))) func252
def aoy:=r1 4 1 λa h=>IC [a] h
def aox(fr:F)(h:Hp):Out:=
 fr 0 λa=>fr 4 λb=>aO b (aK 0 h) λc _=>
 aC 10 c (aK 0 h) λd _=>
 aF d (aK 0 h) λi _=>
 fr 4 λj=>aO j (aK 0 h) λm _=>
 aC 11 m (aK 0 h) λn _=>
 aF n (aK 0 h) λo _=>
 fr 4 λp=>aO p (aK 0 h) λq _=>
 aC 12 q (aK 0 h) λr _=>
 aF r (aK 0 h) λs _=>
 fr 4 λt=>aO t (aK 0 h) λu _=>
 aC 13 u (aK 0 h) λv _=>
 aF v (aK 0 h) λw _=>
 fr 4 λx=>aO x (aK 0 h) λy _=>
 aC 14 y (aK 0 h) λz _=>
 aF z (aK 0 h) λB _=>
 fr 4 λC=>aO C (aK 0 h) λE _=>
 aC 15 E (aK 0 h) λG _=>
 aF G (aK 0 h) λI _=>
 aO a (aK 0 h) λJ _=>
 aC 10 J (aK 0 h) λL _=>
 aS 1 L i (aK 0 h) λ_ e=>
 fr 0 λM=>aO M e λP _=>
 aC 11 P e λQ _=>
 aS 1 Q o e λ_ f=>
 fr 0 λS=>aO S f λW _=>
 aC 12 W f λZ _=>
 aS 1 Z s f λ_ g=>
 fr 0 λaq=>aO aq g λar _=>
 aC 13 ar g λau _=>
 aS 1 au w g λ_ k=>
 fr 0 λaw=>aO aw k λax _=>
 aC 14 ax k λay _=>
 aS 1 ay B k λ_ l=>
 fr 0 λba=>aO ba l λbb _=>
 aC 15 bb l λbc _=>
 aS 1 bc I l λ_ bd=>
 a! fr bd
def aow:Rg:=λf h=>f 4 λa=>aO a (aK 0 h) λb _=>aC 9 b (aK 0 h) λc _=>xg [c] (aK 0 h) λd i=>f 0 λj=>aO j i λm _=>aC 9 m i λn _=>kE [n,d] i λo p=>a! f p
def axN:Rg:=aB aoy (aB aox aow)
def V6:Fun:=c_ [0,1,4] f253.ntmps [] axN
def azK:=fE2 V6 rfl
def aJG:fu 253 V6:=prX aN [] [(1,[0,0,0,0,0,0,0,64,192,448,0,1024,3072,7168,0,16384,49152,114688,0,262144,786432,1835008,0,4194304,12582912,29360128,0,67108864,201326592,469762048,1073741761,2147483585,4294967233,8589934531,17179869123,34359738307,68719476679,137438953415,274877906887,549755813839,1099511627727,2199023255503,4398046511071,8796093022175,17592186044383,35184372088831,70368744177663,140737488355327],fU [0,96,112,128,147,160,176,192,211,224,240,256,275,288,304,320,339,352,368,384,403,416,432,448,467,480,496,514,16,528,544,562,32,576,592,610,48,624,640,658,64,672,688,706,80,720,736,754]),(2,[0,1,3,0,8,24,56,127],fU [48,64,80,98,0,16,32,114])] (aU atd (aU Xj (aU BX bC))) func253
def acY:=rC 5 .aP
def acX:Rg:=λf h=>f 0 λa=>Cb [a] h λb c=>aZ 2 b c λd i=>a! (ss 13 (Y U 0) (ss 12 d (ss 11 b f))) i
def acV:Rg:=λf h=>f 11 λa=>f 13 λb=>aX 8 a b h λc d=>bH 8 c d λi j=>fA 40 [Y U 0,Y U 0,H [],Y U 0,.aP,.aP,Y U 0,Y U 0] j λm n=>aS 8 m i n λ_ o=>a! (ss 7 m f) o
def acU:Rg:=λf h=>f 7 λa=>aC 5 a h λb c=>aF b c λd i=>aZ 2 d i λj m=>a! (ss 20 (Y U 0) (ss 19 j (ss 18 d f))) m
def acT:=r2 21 20 19 λa b h=>aH .lss .none a b h
def QI:Rg:=λf h=>f 18 λa=>f 20 λb=>aX 2 a b h λc d=>bH 2 c d λi j=>fA 106 [Y U 0,Y U 0] j λm n=>aS 2 m i n λ_ o=>a! (ss 9 m f) o
def QH:Rg:=λf h=>f 9 λa=>aC 0 a h λb c=>aF b c λd i=>f 1 λj=>aH .eql .none d j i λm n=>a! (ss 27 m f) n
def acS:Rg:=λf h=>f 5 λa=>f 9 λb=>aC 1 b h λc d=>aF c d λi j=>f 7 λm=>bH 8 m j λn o=>bW [Y U 0,Y U 0,Y U 0,H [],Y U 0,.aP,.aP,Y U 0,Y U 0] [(0,1,i),(1,8,n)] o λp q=>bU 250 [Y U 0,Y U 0,Y U 0,H [],Y U 0,.aP,.aP,Y U 0,Y U 0] 1 [(0,9,p)] q λr s=>bZ 250 9 112 a r s λt u=>a! (ss 5 t f) u
def ZA:=r1 20 20 λa h=>aH .add .none a (Y U 1) h
def Zy:Rg:=λf h=>f 5 λa=>uG [a,(.func (.func 284) .nil .nil)] h λb c=>a! f c
def aeL:Rg:=aB acT (aB (tT 21 a! (Out.ex 2)) (aB (bD 3 (aB QI (aB QH (tT 27 acS a!)))) ZA))
def aeM:Rg:=aB Po (aB (tT 14 a! (Out.ex 0)) (aB (bD 1 (aB acV (aB acU (bD 2 (dG aeL lf))))) Pg))
def akR:Rg:=aB mJ (aB acY (aB (aB acX (bD 0 (dG aeM lf))) (aB Zy (aB Ls b!))))
def ve:Fun:=c_ [0,1,4,5,7,9,11,12,13,14,18,19,20,21,27] f175.ntmps [.tmp 4] akR
def aro:=fE2 ve rfl
def YG:fu 175 ve:=prX aN [] [] (aU acd (aU ahC bC)) func175
def aov:Rg:=λf h=>f 1 λa=>eX 250 a h λb c=>a! (ss 3 b f) c
def aou:Rg:=λf h=>f 3 λa=>aC 0 a h λb c=>aF b c λd i=>aC 1 a i λj m=>aC 0 j m λn o=>aF n o λp q=>bW [Y U 0] [] q λr s=>eX 75 r s λt u=>bW [Y U 0,Y U 0,.dn] [(0,1,d),(1,1,p),(2,1,t)] u λv w=>fA 248 [Y U 0,Y U 0,.dn] w λx y=>aS 3 x v y λ_ z=>a! (ss 4 x f) z
def aot:Rg:=λf h=>f 4 λa=>aC 2 a h λb c=>aF b c λd i=>f 3 λj=>aC 1 j i λm n=>aC 6 m n λo p=>aF o p λq r=>kE [d,q] r λs t=>a! f t
def aos(fr:F)(h:Hp):Out:=
 fr 0 λa=>aO a (aK 1 h) λb _=>
 aC 1 b (aK 1 h) λc _=>
 aF c (aK 1 h) λd _=>
 fr 4 λi=>bH 3 i (aK 1 h) λj _=>
 Aw (eH 248 [Y U 0,Y U 0,.dn] 1 [(0,3,j)]) λf e=>
 bZ 248 3 24 d (e (Hp.next h)) (Hp.put (aK 1 h) (Hp.next h) (some f)) λm n=>
 fr 0 λo=>aO o n λp _=>
 aC 1 p n λq _=>
 aS 1 q m n λ_ r=>
 a! fr r
def aor:Rg:=λf h=>f 0 λa=>f 0 λb=>aO b (aK 0 h) λc _=>aC 2 c (aK 0 h) λd _=>aF d (aK 0 h) λi _=>f 3 λj=>aC 0 j (aK 0 h) λm _=>aF m (aK 0 h) λn _=>avo i n (aK 0 h) λo _=>aO a (aK 0 h) λp _=>aC 2 p (aK 0 h) λq _=>aS 1 q o (aK 0 h) λ_ r=>a! f r
def axM:Rg:=aB aov (aB aou (aB aot (aB aos aor)))
def acv:Fun:=c_ [0,1,3,4] f181.ntmps [] axM
def azJ:=fE2 acv rfl
def aJF:fu 181 acv:=prX aN [] [(3,[0,0,2,6,14,0,32,126,255,511,1023],fU [16,32,48,67,83,97,114,0,128,144,162]),(4,[0,0,2,6,14,0,32,126,255,511,1023],fU [0,16,32,48,67,80,99,112,128,144,162])] (aU BX bC) func181
def aoe:Rg:=λf h=>f 1 λa=>eX 3 a h λb c=>a! (ss 5 (Y U 0) (ss 4 .dn (ss 3 b f))) c
def aod:=r1 9 0 λa h=>aH .eql (.ptr 16) a .dn h
def aoc:Rg:=λf h=>f 0 λa=>yj [a] h λb c=>f 3 λd=>eP (.func 290) [] [d] c λi j=>mX [b,i] j λm n=>oUn .not m n λo p=>a! (ss 12 o f) p
def aob:Rg:=λf h=>f 3 λa=>aF a h λb c=>bW [Y U 0,.aP,Y U 0] [(0,1,b)] c λd i=>eX 246 d i λj m=>a! (ss 6 j f) m
def aoa:Rg:=λf h=>f 0 λa=>f 3 λb=>aF b h λc d=>ve [a,c] d λi j=>aZ 2 i j λm n=>a! (ss 25 (Y U 0) (ss 24 m (ss 23 i f))) n
def an9:=r2 26 25 24 λa b h=>aH .lss .none a b h
def an8:Rg:=λf h=>f 23 λa=>f 25 λb=>aX 9 a b h λc d=>bH 9 c d λi j=>fA 250 [Y U 0,Y U 0,Y U 0,H [],Y U 0,.aP,.aP,Y U 0,Y U 0] j λm n=>aS 9 m i n λ_ o=>a! (ss 8 m f) o
def an7:Rg:=λf h=>f 6 λa=>f 8 λb=>bH 9 b h λc d=>acv [a,c] d λi j=>a! f j
def ajm:=r1 25 25 λa h=>aH .add .none a (Y U 1) h
def ajl:Rg:=λf h=>f 6 λa=>a! (ss 5 (Y U 0) (ss 4 a f)) h
def apz:Rg:=aB an9 (aB (tT 26 a! (Out.ex 1)) (aB (bD 2 (aB an8 an7)) ajm))
def amj:Rg:=aB aoe (aB (bD 0 (aB aod (tT 9 zz (aB aoc (tT 12 zz a!))))) (aB aob (aB (aB aoa (bD 1 (dG apz lf))) (aB ajl b!))))
def acr:Fun:=c_ [0,1,3,4,5,6,8,9,12,23,24,25,26] f185.ntmps [.tmp 4,.tmp 5] amj
def azG:=fE2 acr rfl
def aJC:fu 185 acr:=prX aN [2,4] [] (aU TB (aU acg (aU YG (aU aJF bC)))) func185
def aop:=r1 4 0 λa h=>aH .eql (.ptr 3) a .dn h
def aoo:Rg:=λf h=>f 0 λa=>aO a h λb c=>aC 0 b c λd i=>aF d i λj m=>a! (ss 2 j f) m
def axL:Rg:=aB akP (aB (aB aop (tT 4 zz a!)) (aB aoo b!))
def acu:Fun:=c_ [0,2,4] f138.ntmps [.tmp 2] axL
def azI:=fE1 acu rfl
def aJE:fu 138 acu:=prX aN [2] [] bC func138
def ajb:=r1 7 0 λa h=>aH .eql (.ptr 3) a .dn h
def ai9:Rg:=λf h=>f 0 λa=>aO a h λb c=>aC 1 b c λd i=>aF d i λj m=>aZ 2 j m λn o=>a! (ss 13 (Y U 0) (ss 12 n (ss 11 j f))) o
def ai7:Rg:=λf h=>f 11 λa=>f 13 λb=>aX 3 a b h λc d=>bH 3 c d λi j=>fA 248 [Y U 0,Y U 0,.dn] j λm n=>aS 3 m i n λ_ o=>a! (ss 5 m f) o
def ak6:Rg:=aB Po (aB (tT 14 a! (Out.ex 0)) (aB (bD 1 (aB ai7 ac2)) Pg))
def asT:Rg:=aB zO (aB (aB ajb (tT 7 zz a!)) (aB agf (aB (aB ai9 (bD 0 (dG ak6 lf))) (aB ajV b!))))
def IB:Fun:=c_ [0,2,3,5,7,11,12,13,14] f139.ntmps [.tmp 2] asT
def ayb:=fE1 IB rfl
def ahA:fu 139 IB:=prX aN [2] [] bC func139
def aoh:Rg:=λf h=>f 3 λa=>f 5 λb=>aC 1 b h λc d=>aF c d λi j=>bU 3 [Y U 0] 1 [(0,1,i)] j λm n=>bZ 3 1 8 a m n λo p=>a! (ss 3 o f) p
def apA:Rg:=aB Po (aB (tT 14 a! (Out.ex 0)) (aB (bD 1 (aB ai7 aoh)) Pg))
def axK:Rg:=aB zO (aB (aB ajb (tT 7 zz a!)) (aB agf (aB (aB ai9 (bD 0 (dG apA lf))) (aB ajV b!))))
def acs:Fun:=c_ [0,2,3,5,7,11,12,13,14] f221.ntmps [.tmp 2] axK
def azH:=fE1 acs rfl
def aJD:fu 221 acs:=prX aN [2] [] bC func221
def ayz:Fun:=aue
def aSr:fu 282 ayz:=auX func282 kR kR kR kR
def al5:Rg:=λf h=>f 0 λa=>aO a h λb c=>aC 0 b c λd i=>aF d i λj m=>aH .eql (.ptr 2) j .dn m λn o=>a! (ss 6 n f) o
def axr:Rg:=λf h=>f 0 λa=>ap7 a h λb c=>ayz [b] c λd i=>Zh prog 141 d i λj m=>aO a m λn o=>aC 0 n o λp q=>aS 1 p j q λ_ r=>a! f r
def axq:Rg:=λf h=>f 0 λa=>aO a h λb c=>aC 0 b c λd i=>aF d i λj m=>aH .neq (.ptr 2) j a m λn o=>a! (ss 19 n f) o
def axU:Rg:=aB al5 (tT 6 axr (aB axq (tT 19 aTT a!)))
def ahS:Fun:=c_ [0,6,19] f173.ntmps [] axU
def aHc:=fE1 ahS rfl
def aG6:fu 173 ahS:=prX aN [] [] (aU aSr bC) func173
def axD:Rg:=λf h=>a! (ss 5 .oL (ss 4 (Y U 0) f)) h
def axC:Rg:=λf h=>f 0 λa=>ahS [a] h λb c=>a! f c
def axB:Rg:=λf h=>f 0 λa=>aO a h λb c=>aC 1 b c λd i=>aF d i λj m=>f 1 λn=>bZ 5 1 1 j n m λo p=>aO a p λq r=>aC 1 q r λs t=>aS 1 s o t λ_ u=>a! f u
def axA:Rg:=λf h=>f 1 λa=>aZ 1 a h λb c=>a! (ss 5 .oL (ss 4 b f)) c
def aGH:Rg:=aB axD (aB axC (aB axB (aB axA b!)))
def yP:Fun:=c_ [0,1,4,5] f96.ntmps [.tmp 4,.tmp 5] aGH
def aHd:=fE2 yP rfl
def apy:fu 96 yP:=prX aN [] [] (aU aG6 bC) func96
def ayy:Fun:=afH 5
def aSq:fu 384 ayy:=ar2 (ps:=f384.params) func384 kR kR kR underlying43 kR
def axp:Rg:=λf h=>f 0 λa=>aO a (aK 0 h) λb _=>aC 1 b (aK 0 h) λc _=>aF c (aK 0 h) λd _=>XC d (aK 0 h) λi j=>aH .mul .none (Y U 2) i j λm _=>f 1 λn=>aH .add .none m n j λo _=>ayy [o] j λp q=>f 0 λr=>aO r q λs _=>aC 1 s q λt _=>aF t q λu _=>chk (λh=>aF t h) u ( aZ 2 u q λv _=>fM 1 p none (some v) none q λw _=>a! (ss 4 w f) q) 2 [j,(aK 0 h)]
def axo:Rg:=λf h=>f 4 λa=>f 0 λb=>aO b h λc d=>aC 1 c d λi j=>aF i j λm n=>anh 1 a m n λo p=>a! f p
def axn:Rg:=λf h=>f 0 λa=>f 4 λb=>aO a h λc d=>aC 1 c d λi j=>aS 1 i b j λ_ m=>a! f m
def aGG:Rg:=aB axp (aB axo axn)
def apM:Fun:=c_ [0,1,4] f303.ntmps [] aGG
def aHb:=fE2 apM rfl
def aSs:fu 303 apM:=prX aN [] [(0,[0,1,3,7,15,31,0,127,255,0,512,1536,3584,7680,16383,32767],fU [0,16,32,51,66,80,96,112,130,144,160,176,197,208,224,240])] (aU aSq bC) func303
def al7:=r1 7 1 λa h=>aH .lss .none a (Y U 0) h
def al6:Rg:=λf h=>f 0 λa=>aO a (aK 0 h) λb _=>aC 1 b (aK 0 h) λc _=>aF c (aK 0 h) λd _=>XC d (aK 0 h) λi j=>f 0 λm=>aO m j λn _=>aC 1 n j λo _=>aF o j λp _=>chk (λh=>aF o h) p ( aZ 2 p j λq _=>aH .sub .none i q j λr _=>f 1 λs=>aH .lss .none r s j λt _=>a! (ss 21 t f) j) 1 [(aK 0 h)]
def axs:Rg:=λf h=>f 0 λa=>f 1 λb=>apM [a,b] h λc d=>a! f d
def axV:Rg:=aB axC (aB (aB al7 (tT 7 zz a!)) (aB al6 (tT 21 axs a!)))
def apN:Fun:=c_ [0,1,7,21] f204.ntmps [] axV
def atj:=fE2 apN rfl
def aSu:fu 204 apN:=prX aN [2] [(3,[0,1,3,7,15,0,32,96,224,480,1023,0,4095],fU [0,16,32,51,66,80,96,112,132,144,160,176,192])] (aU aG6 (aU aSs bC)) func204
def al9:Rg:=λf h=>f 0 λa=>aO a (aK 0 h) λb _=>aC 1 b (aK 0 h) λc _=>aF c (aK 0 h) λd _=>BN d (aK 0 h) λi j=>f 0 λm=>aO m j λn _=>aC 1 n j λo _=>aF o j λp _=>chk (λh=>aF o h) p ( aZ 2 p j λq _=>IZ 5 i q j λr s=>a! (ss 2 r f) s) 1 [(aK 0 h)]
def axW:Rg:=aB axG (aB al9 b!)
def KW:Fun:=c_ [0,2] f99.ntmps [.tmp 2] axW
def atl:=fE1 KW rfl
def ax8:fu 99 KW:=prX aN [] [(1,[0,1,3,7,15,0,32,96,224,480,1023,2047],fU [0,16,32,51,66,80,96,112,132,144,162,176])] bC func99
def aak:=rC 4 (H [])
def aaj:=r1 12 0 λa h=>aZ 2 a h
def aai:=r1 13 12 λa h=>aH .eql .none a (Y U 0) h
def aix:=r1 15 12 λa h=>aH .eql .none a (Y U 1) h
def aCc:Rg:=λf h=>f 0 λa=>aX 1 a (Y U 0) h λb c=>aF b c λd i=>a! (ss 4 d f) i
def aq5:=rC 5 (Y U 0)
def aq4:Rg:=λf h=>f 1 λa=>aZ 1 a h λb c=>aH .gtr .none b (Y U 0) c λd i=>a! (ss 22 d f) i
def aCb:Rg:=λf h=>f 1 λa=>aZ 1 a h λb c=>f 0 λd=>aZ 2 d c λi j=>aH .sub .none i (Y U 1) j λm n=>aH .quo .none (Y U 9223372036854775807) m n λo p=>aH .geq .none b o p λq r=>a! (ss 29 q f) r
def axm:Rg:=λf h=>f 5 λa=>f 1 λb=>aZ 1 b h λc d=>f 0 λi=>aZ 2 i d λj m=>aH .sub .none j (Y U 1) m λn o=>aH .mul .none c n o λp q=>aH .add .none a p q λr s=>a! (ss 5 r f) s
def al1:Rg:=λf h=>f 0 λa=>aZ 2 a h λb c=>a! (ss 41 (Y U 0) (ss 40 b (ss 39 a f))) c
def al0:=r2 42 41 40 λa b h=>aH .lss .none a b h
def axl:Rg:=λf h=>f 39 λa=>f 41 λb=>aX 1 a b h λc d=>aF c d λi j=>a! (ss 7 i f) j
def axk:Rg:=λf h=>f 7 λa=>aZ 1 a h λb c=>f 5 λd=>aH .sub .none (Y U 9223372036854775807) d c λi j=>aH .gtr .none b i j λm n=>a! (ss 49 m f) n
def axj:Rg:=λf h=>f 5 λa=>f 7 λb=>aZ 1 b h λc d=>aH .add .none a c d λi j=>a! (ss 5 i f) j
def axi:=r1 41 41 λa h=>aH .add .none a (Y U 1) h
def alZ:Rg:=λf h=>fA 141 [.dn,.aP] h λa b=>a! (ss 8 a f) b
def alY:Rg:=λf h=>f 5 λa=>f 8 λb=>apN [b,a] h λc d=>a! f d
def alX:Rg:=λf h=>f 0 λa=>aX 1 a (Y U 0) h λb c=>aF b c λd i=>f 8 λj=>yP [j,d] i λm n=>a! f n
def alW:Rg:=λf h=>f 0 λa=>fM 1 a (some (Y U 1)) none none h λb c=>aZ 2 b c λd i=>a! (ss 65 (Y U 0) (ss 64 d (ss 63 b f))) i
def alV:=r2 66 65 64 λa b h=>aH .lss .none a b h
def axh:Rg:=λf h=>f 63 λa=>f 65 λb=>aX 1 a b h λc d=>aF c d λi j=>a! (ss 10 i f) j
def axg:Rg:=λf h=>f 1 λa=>f 8 λb=>yP [b,a] h λc d=>a! f d
def axf:Rg:=λf h=>f 10 λa=>f 8 λb=>yP [b,a] h λc d=>a! f d
def axe:=r1 65 65 λa h=>aH .add .none a (Y U 1) h
def alU:=r1 4 8 λa h=>KW [a] h
def aco:Rg:=aB al0 (aB (tT 42 a! (Out.ex 1)) (aB (bD 2 (aB axl (aB (aB axk (tT 49 zz a!)) axj))) axi))
def acn:Rg:=aB alV (aB (tT 66 a! (Out.ex 3)) (aB (bD 4 (aB axh (aB axg axf))) axe))
def apl:Rg:=aB aak (aB (aB aaj (bD 0 (aB aai (tT 13 (aB aak b!) (aB aix (tT 15 (aB aCc b!) a!)))))) (aB aq5 (aB (aB aq4 (tT 22 (aB (aB aCb (tT 29 zz a!)) axm) a!)) (aB (aB al1 (bD 1 (dG aco lf))) (aB alZ (aB alY (aB alX (aB (aB alW (bD 3 (dG acn lf))) (aB alU b!)))))))))
def Xw:Fun:=c_ [0,1,4,5,7,8,10,12,13,15,22,29,39,40,41,42,49,63,64,65,66] f128.ntmps [.tmp 4] apl
def aJQ:=fE2 Xw rfl
def apx:fu 128 Xw:=prX aN [9,15] [] (aU aSu (aU apy (aU ax8 bC))) func128
def aCp:Rg:=λf h=>f 1 λa=>Xw [a,H [32]] (aK 0 h) λb c=>f 0 λd=>aO d c λi _=>aC 5 i c λj _=>yP [j,b] c λm n=>a! f n
def aCo:Rg:=λf h=>f 0 λa=>aO a h λb c=>aC 5 b c λd i=>yP [d,H [13,10]] i λj m=>a! f m
def aKl:Rg:=aB aCp aCo
def uM:Fun:=c_ [0,1] f98.ntmps [] aKl
def aJT:=fE2 uM rfl
def aur:fu 98 uM:=prX aN [] [(0,[0,1,3,0,8,31],fU [48,66,0,16,32,82])] (aU apx (aU apy bC)) func98
def aCg:Rg:=λf h=>fA 62 [H [],H [],Y U 0,Y U 0,Y U 0,Y U 0,Y U 0,Y U 0,Y U 0] h λa b=>a! (ss 2 a f) b
def aCe:Rg:=λf h=>f 0 λa=>aO a h λb c=>aC 0 b c λd i=>bH 9 d i λj m=>f 2 λn=>aS 9 n j m λ_ o=>a! f o
def aKj:Rg:=aB aCg (aB (aB agp (tT 4 zz a!)) (aB aCe b!))
def aut:Fun:=c_ [0,2,4] f111.ntmps [.cell 2 62] aKj
def aJR:=fE1 aut rfl
def aTo:fu 111 aut:=prX aN [2] [] bC func111
def aCr:Rg:=λf h=>fA 145 [Y U 0,H [],(K false),(K false),(K false)] h λa b=>a! (ss 0 a f) b
def aCq:Rg:=λf h=>bW [Y U 0,H [],(K false),(K false),(K false)] [(0,1,(Y U 2)),(1,1,(H [119,111,114,100,115]))] h λa b=>f 0 λc=>aS 5 c a b λ_ d=>a! f d
def aEd:Rg:=aB aCr (aB aCq b!)
def acF:Fun:=c_ [0] f109.ntmps [.cell 0 145] aEd
def aJU(h:Hp):acF [] h=bV prog [.cell 0 145] (aEd T.nil h):=kR
def aKq:fu 109 acF:=prX aN [] [] bC func109
def aus:Fun:=c_ [0] f136.ntmps [.cell 0 145] aHp
def aKo:fu 136 aus:=prX aN [0,1] [] bC func136
def amh:Rg:=λf h=>f 1 λa=>f 0 λb=>aZ 2 b h λc d=>aH .lss .none a c d λi j=>ifB i (aX 3 b a j λm n=>aC 0 m n λo p=>aF o p λq r=>aH .eql .none q (Y U 1) r λs t=>a! (ss 4 s f) t) (a! (ss 4 (K false) f) j)
def axX:Rg:=aB af7 (aB amh b!)
def KX:Fun:=c_ [0,1,4] f93.ntmps [.tmp 4] axX
def aHh:=fE2 KX rfl
def aG8:fu 93 KX:=prX aN [] [] bC func93
def aCn:Rg:=λf h=>a! (ss 5 (K false) (ss 4 .aP f)) h
def aCl:Rg:=λf h=>f 0 λa=>aO a h λb c=>aC 3 b c λd i=>aF d i λj m=>aZ 2 j m λn o=>a! (ss 14 (Y U 0) (ss 13 n (ss 12 j f))) o
def aiy:=r2 15 14 13 λa b h=>aH .lss .none a b h
def aq7:Rg:=λf h=>f 12 λa=>f 14 λb=>aX 3 a b h λc d=>bH 3 c d λi j=>fA 149 [Y U 0,H [],.aP] j λm n=>aS 3 m i n λ_ o=>a! (ss 8 m f) o
def aq6:Rg:=λf h=>f 8 λa=>aC 0 a h λb c=>aF b c λd i=>aH .eql .none d (Y U 3) i λj m=>a! (ss 20 j f) m
def aCj:Rg:=λf h=>f 6 λa=>f 8 λb=>aC 1 b h λc d=>aF c d λi j=>bU 9 [H []] 1 [(0,1,i)] j λm n=>bZ 9 1 16 a m n λo p=>a! (ss 6 o f) p
def aCi:=r1 14 14 λa h=>aH .add .none a (Y U 1) h
def aCh:Rg:=λf h=>f 6 λa=>aZ 2 a h λb c=>f 1 λd=>aH .eql .none b d c λi j=>a! (ss 5 i (ss 4 a f)) j
def aiz:Rg:=aB aiy (aB (tT 15 a! (Out.ex 0)) (aB (bD 1 (aB aq7 (aB (aB aq6 (tT 20 (aB aCn b!) a!)) aCj))) aCi))
def aKk:Rg:=aB aCn (aB adq (aB (aB aCl (bD 0 (dG aiz lf))) (aB aCh b!)))
def acE:Fun:=c_ [0,1,4,5,6,8,12,13,14,15,20] f110.ntmps [.tmp 4,.tmp 5] aKk
def aJS:=fE2 acE rfl
def aKp:fu 110 acE:=prX aN [] [] bC func110
def aCB:Rg:=λf h=>fA 145 [Y U 0,H [],(K false),(K false),(K false)] h λa b=>a! (ss 4 a f) b
def aCA:Rg:=λf h=>f 1 λa=>aO a h λb c=>aC 3 b c λd i=>aF d i λj m=>aZ 2 j m λn o=>aH .gtr .none n (Y U 0) o λp q=>a! (ss 10 p f) q
def aCz:Rg:=λf h=>bW [Y U 0,H [],(K false),(K false),(K false)] [] h λa b=>f 4 λc=>aS 5 c a b λ_ d=>a! f d
def aEe:Rg:=aB aCB (aB (aB aCA (tT 10 zz a!)) (aB aCz b!))
def auv:Fun:=c_ [1,4,10] f58.ntmps [.cell 4 145] aEe
def aJX(x0 a:V)(h:Hp):auv [x0,a] h=bV prog [.cell 4 145] (aEe (ss 1 a T.nil) h):=kR
def aTr:fu 58 auv:=prX aN [2] [] bC func58
def aCE:Rg:=λf h=>acF [] h λa b=>f 4 λc=>aS 5 c a b λ_ d=>a! f d
def aCD:Rg:=λf h=>f 1 λa=>bU 9 [H []] 1 [(0,1,(H [42,32,67,65,80,65,66,73,76,73,84,89,32,73,77,65,80,52,114,101,118,49,32,76,73,84,69,82,65,76,43,32,85,73,68,80,76,85,83,32,77,79,86,69,32,67,79,78,68,83,84,79,82,69]))] h λb c=>uM [a,b] c λd i=>a! f i
def apm:Rg:=aB aCB (aB (aB aCA (tT 10 (aB aCE b!) a!)) (aB aCD (aB aCz b!)))
def aEu:Fun:=c_ [1,4,10] f57.ntmps [.cell 4 145] apm
def aJY(x0 a:V)(h:Hp):aEu [x0,a] h=bV prog [.cell 4 145] (apm (ss 1 a T.nil) h):=kR
def aT9:fu 57 aEu:=prX aN [] [] (aU aKq (aU aur bC)) func57
def aCx:Rg:=λf h=>f 1 λa=>acE [a,Y U 2] h λb c=>bK 0 b c λd i=>bK 1 b i λj m=>a! (ss 6 j (ss 5 d f)) m
def aCw:=r1 14 6 λa h=>oUn .not a h
def aCv:Rg:=λf h=>f 1 λa=>aO a h λb c=>aC 1 b c λd i=>aF d i λj m=>aut [j] m λn o=>fA 62 [H [],H [],Y U 0,Y U 0,Y U 0,Y U 0,Y U 0,Y U 0,Y U 0] o λp q=>aS 9 p n q λ_ r=>a! (ss 7 p f) r
def aCu:Rg:=λf h=>f 5 λa=>aX 1 a (Y U 0) (aK 0 h) λb _=>aF b (aK 0 h) λc _=>f 7 λd=>aC 0 d (aK 0 h) λi _=>aF i (aK 0 h) λj _=>aH .neq .none c j (aK 0 h) λm _=>ifB m (a! (ss 34 (K true) f) (aK 0 h)) (f 5 λn=>aX 1 n (Y U 1) (aK 0 h) λo _=>aF o (aK 0 h) λp _=>f 7 λq=>aC 1 q (aK 0 h) λr _=>aF r (aK 0 h) λs _=>aH .neq .none p s (aK 0 h) λt _=>a! (ss 34 t f) (aK 0 h))
def aCt:Rg:=λf h=>f 0 λa=>aO a h λb c=>aC 0 b c λd i=>aS 1 d (K true) i λ_ j=>a! f j
def aKn:Rg:=aB aCB (aB aCx (aB (aB aCw (tT 14 zz a!)) (aB (aB aCv (aB aCu (tT 34 zz a!))) (aB aCt (aB aCz b!)))))
def auu:Fun:=c_ [0,1,4,5,6,7,14,34] f60.ntmps [.cell 4 145] aKn
def aJW:=fE2 auu rfl
def aTq:fu 60 auu:=prX aN [3,6] [(5,[0,1,3,0,8,31,63,127,255,511,127,1151,4095,8191],fU [0,16,35,48,67,80,96,112,128,147,160,179,192,208])] (aU aKp (aU aTo bC)) func60
abbrev YJ:Fun:=Ik.aw4
def azm:fu 120 YJ:=Ik.aJn
def ZC:Rg:=λf h=>f 0 λa=>f 3 λb=>eP (.func 301) [] [b] h λc d=>kN [a,c] d λi j=>a! (ss 4 i f) j
def aho:Rg:=aB aoI (aB ZC b!)
def KP:Fun:=c_ [0,1,3,4] f201.ntmps [.tmp 4] aho
def apF:=fE2 KP rfl
def ax0:fu 201 KP:=prX aN [] [] (aU vO bC) func201
def Jr:Rg:=λf h=>f 0 λa=>aZ 2 a h λb c=>aH .sub .none b (Y U 1) c λd i=>a! (ss 3 d (ss 2 (Y U 0) f)) i
def Jq:=r2 9 2 3 λa b h=>aH .lss .none a b h
def KI:Rg:=aB (aB Jq (tT 9 a! (Out.ex 0))) zz
def Bj:Rg:=aB Jr (bD 0 (dG KI lf))
def uH:Fun:=c_ [0,2,3,9] f202.ntmps [] Bj
def aas:=fE1 uH rfl
def ahD:fu 202 uH:=prX aN [3,2] [] bC func202
def ajy:=r2 6 0 1 λa b h=>KP [a,b] h
def ajx:Rg:=λf h=>f 6 λa=>aH .lss .none a (Y U 0) h λb c=>ifB b (a! (ss 18 (K true) f) c) (f 5 λd=>aZ 2 d c λi j=>f 0 λm=>aZ 2 m j λn o=>aH .eql .none i n o λp q=>a! (ss 18 p f) q)
def ajw:Rg:=λf h=>f 5 λa=>f 0 λb=>f 6 λc=>aX 6 b c h λd i=>aC 1 d i λj m=>aF j m λn o=>bU 9 [H []] 1 [(0,1,n)] o λp q=>bZ 9 1 16 a p q λr s=>a! (ss 5 r f) s
def ajv:Rg:=λf h=>f 0 λa=>f 6 λb=>aX 6 a b h λc d=>aC 2 c d λi j=>aF i j λm n=>a! (ss 1 m f) n
def aju:=r1 33 1 λa h=>aH .eql .none a (Y U 0) h
def ajt:Rg:=λf h=>f 5 λa=>uH [a] h λb c=>a! f c
def ajs:=r1 4 5 λa h=>Xw [a,H [47]] h
def ak8:Rg:=bD 1 (aB ajy (aB (aB ajx (tT 18 zz a!)) (aB ajw (aB ajv (aB aju (tT 33 (Out.ex 0) a!))))))
def ahp:Rg:=aB aak (aB acY (aB a! (aB (bD 0 (dG ak8 lf)) (aB ajt (aB ajs b!)))))
def Xl:Fun:=c_ [0,1,4,5,6,18,33] f122.ntmps [.tmp 4] ahp
def ayf:=fE2 Xl rfl
def aGN:fu 122 Xl:=prX aN [4] [] (aU ax0 (aU ahD (aU apx bC))) func122
def XT:Rg:=λf h=>a! (ss 5 (K false) (ss 4 (Y U 0) f)) h
def XR:Rg:=λf h=>f 1 λa=>BI [a] h λb c=>BI [H [73,78,66,79,88]] c λd i=>aH .eql .none b d i λj m=>a! (ss 11 j f) m
def ajE:=rC 1 (H [73,78,66,79,88])
def XQ:Rg:=λf h=>f 0 λa=>aZ 2 a h λb c=>a! (ss 14 (Y U 0) (ss 13 b (ss 12 a f))) c
def XP:Rg:=λf h=>f 12 λa=>f 14 λb=>aX 6 a b h λc d=>bH 6 c d λi j=>fA 55 [Y U 0,H [],Y U 0,Y U 0,Y U 0,Y U 0] j λm n=>aS 6 m i n λ_ o=>a! (ss 7 m f) o
def XO:Rg:=λf h=>f 1 λa=>aH .neq .none a (H []) h λb c=>ifB b (f 0 λd=>f 7 λi=>aC 0 i c λj m=>aF j m λn o=>Xl [d,n] o λp q=>aH .eql .none p a q λr s=>a! (ss 27 r f) s) (a! (ss 27 (K false) f) c)
def ajC:Rg:=λf h=>f 7 λa=>aC 0 a h λb c=>aF b c λd i=>a! (ss 5 (K true) (ss 4 d f)) i
def ak9:Rg:=aB aiy (aB (tT 15 a! (Out.ex 0)) (aB (bD 1 (aB XP (aB XO (tT 27 (aB ajC b!) a!)))) aCi))
def Xd:Rg:=aB XT (aB (aB XR (tT 11 ajE a!)) (aB (aB XQ (bD 0 (dG ak9 lf))) (aB XT b!)))
def Xm:Fun:=c_ [0,1,4,5,7,11,12,13,14,15,27] f187.ntmps [.tmp 4,.tmp 5] Xd
def ayg:=fE2 Xm rfl
def aGO:fu 187 Xm:=prX aN [] [] (aU ahH (aU aGN bC)) func187
def akk:Rg:=λf h=>a! (ss 5 (Y U 0) (ss 4 (Y U 0) f)) h
def akj:Rg:=λf h=>f 1 λa=>YJ [a] h λb c=>bK 0 b c λd i=>bK 1 b i λj m=>a! (ss 7 j (ss 6 d f)) m
def aki:=r1 16 7 λa h=>aH .neq .none a (Y U 0) h
def akh:Rg:=λf h=>f 0 λa=>aO a h λb c=>aC 1 b c λd i=>aF d i λj m=>yj [j] m λn o=>f 6 λp=>Xm [n,p] o λq r=>bK 0 q r λs t=>bK 1 q t λu v=>a! (ss 9 u (ss 8 s f)) v
def akg:=r1 29 9 λa h=>oUn .not a h
def akf:Rg:=λf h=>f 8 λa=>a! (ss 5 (Y U 0) (ss 4 a f)) h
def as5:Rg:=aB akk (aB akj (aB (aB aki (tT 16 zz a!)) (aB akh (aB (aB akg (tT 29 zz a!)) (aB akf b!)))))
def Xt:Fun:=c_ [0,1,4,5,6,7,8,9,16,29] f116.ntmps [.tmp 4,.tmp 5] as5
def ays:=fE2 Xt rfl
def aG2:fu 116 Xt:=prX aN [3,6] [] (aU azm (aU TB (aU aGO bC))) func116
abbrev jy:Fun:=Ik.aw2
def Om:fu 126 jy:=Ik.aJm
def YO:Fun:=c_ [0,2] f118.ntmps [.cell 2 145] aHp
def azB:fu 118 YO:=prX aN [0,1] [] bC func118
def ao7:Rg:=λf h=>f 1 λa=>eX 3 a h λb c=>fA 55 [Y U 0,H [],Y U 0,Y U 0,Y U 0,Y U 0] c λd i=>a! (ss 4 d (ss 3 b f)) i
def ao6:Rg:=λf h=>f 0 λa=>aO a h λb c=>aC 1 b c λd i=>aF d i λj m=>yj [j] m λn o=>a! (ss 5 n f) o
def ao5:Rg:=λf h=>f 5 λa=>f 3 λb=>eP (.func 208) [] [b] h λc d=>kN [a,c] d λi j=>aX 6 a i j λm n=>bH 6 m n λo p=>f 4 λq=>aS 6 q o p λ_ r=>a! f r
def axT:Rg:=aB ao7 (aB ao6 (aB ao5 b!))
def acD:Fun:=c_ [0,1,3,4,5] f125.ntmps [.cell 4 55] axT
def azV:=fE2 acD rfl
def aJN:fu 125 acD:=prX aN [] [] (aU TB (aU vO bC)) func125
def RF:Rg:=λf h=>fA 145 [Y U 0,H [],(K false),(K false),(K false)] h λa b=>a! (ss 6 a f) b
def RD:Rg:=λf h=>f 1 λa=>acE [a,Y U 1] h λb c=>bK 0 b c λd i=>bK 1 b i λj m=>a! (ss 8 j (ss 7 d f)) m
def Rz:=r1 18 8 λa h=>oUn .not a h
def Ry:Rg:=λf h=>f 0 λa=>aO a h λb c=>aC 1 b c λd i=>aS 1 d .dn i λ_ j=>aO a j λm n=>aC 2 m n λo p=>aS 1 o (K false) p λ_ q=>a! f q
def Rx:Rg:=λf h=>f 1 λa=>f 7 λb=>aX 1 b (Y U 0) h λc d=>aF c d λi j=>Xt [a,i] j λm n=>bK 0 m n λo p=>bK 1 m p λq r=>a! (ss 10 q (ss 9 o f)) r
def Rw:=r1 35 10 λa h=>aH .neq .none a (Y U 0) h
def Rt:Rg:=λf h=>f 0 λa=>f 1 λb=>aO b h λc d=>aC 1 c d λi j=>aF i j λm n=>f 9 λo=>acr [m,o] n λp q=>bK 0 p q λr s=>bK 1 p s λt u=>aO a u λv w=>aC 1 v w λx y=>aS 1 x r y λ_ z=>a! f z
def Ro:Rg:=λf h=>f 0 λa=>f 2 λb=>aO a h λc d=>aC 2 c d λi j=>aS 1 i b j λ_ m=>a! f m
def Ns:Rg:=λf h=>f 1 λa=>f 9 λb=>acD [a,b] h λc d=>fA 55 [Y U 0,H [],Y U 0,Y U 0,Y U 0,Y U 0] d λi j=>aS 6 i c j λ_ m=>a! (ss 11 i f) m
def Nr:Rg:=λf h=>f 1 λa=>bU 9 [H []] 1 [(0,1,(H [42,32,70,76,65,71,83,32,40,92,65,110,115,119,101,114,101,100,32,92,70,108,97,103,103,101,100,32,92,68,101,108,101,116,101,100,32,92,83,101,101,110,32,92,68,114,97,102,116,41]))] h λb c=>uM [a,b] c λd i=>a! f i
def Nq:Rg:=λf h=>f 1 λa=>f 0 λb=>aO b h λc d=>aC 1 c d λi j=>aF i j λm n=>IB [m] n λo p=>aZ 2 o p λq r=>jy [q] r λs t=>bU 9 [H [],H [],H []] 3 [(0,1,(H [42])),(1,1,s),(2,1,(H [69,88,73,83,84,83]))] t λu v=>uM [a,u] v λw x=>a! f x
def Np:Rg:=λf h=>f 1 λa=>bU 9 [H []] 1 [(0,1,(H [42,32,48,32,82,69,67,69,78,84]))] h λb c=>uM [a,b] c λd i=>a! f i
def Nl:Rg:=λf h=>f 1 λa=>f 11 λb=>aC 3 b h λc d=>aF c d λi j=>jy [i] j λm n=>aH .add .none (H [42,32,79,75,32,91,85,73,68,86,65,76,73,68,73,84,89,32]) m n λo p=>aH .add .none o (H [93]) p λq r=>bU 9 [H []] 1 [(0,1,q)] r λs t=>uM [a,s] t λu v=>a! f v
def Nk:Rg:=λf h=>f 1 λa=>f 11 λb=>aC 4 b h λc d=>aF c d λi j=>jy [i] j λm n=>aH .add .none (H [42,32,79,75,32,91,85,73,68,78,69,88,84,32]) m n λo p=>aH .add .none o (H [93]) p λq r=>bU 9 [H []] 1 [(0,1,q)] r λs t=>uM [a,s] t λu v=>a! f v
def Nj:Rg:=λf h=>f 1 λa=>aO a h λb c=>aC 1 b c λd i=>aF d i λj m=>yh [j] m λn o=>jy [n] o λp q=>aH .add .none (H [42,32,79,75,32,91,72,73,71,72,69,83,84,77,79,68,83,69,81,32]) p q λr s=>aH .add .none r (H [93]) s λt u=>bU 9 [H []] 1 [(0,1,t)] u λv w=>uM [a,v] w λx y=>a! f y
def Nh:=rM 100 2
def aaf:Rg:=λf h=>bW [Y U 0,H [],(K false),(K false),(K false)] [(1,1,(H [82,69,65,68,45,79,78,76,89])),(3,1,(K true))] h λa b=>f 6 λc=>aS 5 c a b λ_ d=>a! f d
def aae:Rg:=λf h=>bW [Y U 0,H [],(K false),(K false),(K false)] [(1,1,(H [82,69,65,68,45,87,82,73,84,69])),(3,1,(K true))] h λa b=>f 6 λc=>aS 5 c a b λ_ d=>a! f d
def YF:Rg:=aB RF (aB RD (aB (aB Rz (tT 18 zz a!)) (aB Ry (aB Rx (aB (aB Rw (tT 35 zz a!)) (aB Rt (aB Ro (aB Ns (aB Nr (aB Nq (aB Np (aB Nl (aB Nk (aB Nj (aB (aB Nh (tT 100 (aB aaf b!) a!)) (aB aae b!))))))))))))))))
def FC:Fun:=c_ [0,1,2,6,7,8,9,10,11,18,35,100] f112.ntmps [.cell 6 145] YF
def arH:=fE3 FC rfl
def azC:fu 112 FC:=prX aN [3,7] [] (aU aKp (aU aG2 (aU aJC (aU aJN (aU aur (aU ahA (aU Om (aU ace bC)))))))) func112
def aj6:Rg:=λf h=>f 0 λa=>f 1 λb=>FC [a,b,(K false)] h λc d=>f 4 λi=>aS 5 i c d λ_ j=>a! f j
def as3:Rg:=aB aCB (aB aj6 b!)
def Xq:Fun:=c_ [0,1,4] f61.ntmps [.cell 4 145] as3
def ayp:=fE2 Xq rfl
def aGY:fu 61 Xq:=prX aN [] [] (aU azC bC) func61
def DL:=r1 6 1 λa h=>aH .lss .none a (Y U 0) h
def DK:Rg:=λf h=>f 1 λa=>f 0 λb=>XC b h λc d=>aZ 2 b d λi j=>aH .sub .none c i j λm n=>aH .sub .none a m n λo p=>a! (ss 1 o f) p
def DJ:=r1 16 1 λa h=>aH .gtr .none a (Y U 0) h
def RX:Rg:=λf h=>f 0 λa=>XC a h λb c=>fM 1 a none (some b) none c λd i=>f 1 λj=>aaU 9 1 16 [H []] d j i λm n=>aZ 2 a n λo p=>fM 1 m none (some o) none p λq r=>a! (ss 0 q f) r
def KC:Rg:=aB mJ (aB (aB DL (tT 6 zz a!)) (aB (aB DK (aB DJ (tT 16 RX a!))) (aB qW b!)))
def zX:Fun:=c_ [0,1,4,6,16] f354.ntmps [.tmp 4] KC
def ahM:=fE2 zX rfl
def apq:fu 354 zX:=prX aN [2] [] bC func354
def LX:=rC 3 (Y U 0)
def LW:Rg:=λf h=>f 0 λa=>aZ 2 a h λb c=>a! (ss 11 (Y U 0) (ss 10 b (ss 9 a f))) c
def LU:Rg:=λf h=>f 9 λa=>f 11 λb=>aX 1 a b h λc d=>aF c d λi j=>a! (ss 5 i f) j
def LQ:Rg:=λf h=>f 3 λa=>f 5 λb=>aZ 2 b h λc d=>aH .add .none a c d λi j=>a! (ss 3 i f) j
def LP:=r1 20 3 λa h=>aH .lss .none a (Y U 0) h
def LJ:=r1 6 3 λa h=>zX [.aP,a] h
def JZ:Rg:=λf h=>f 0 λa=>aZ 2 a h λb c=>a! (ss 27 (Y U 0) (ss 26 b (ss 25 a f))) c
def JY:=r2 28 27 26 λa b h=>aH .lss .none a b h
def JX:Rg:=λf h=>f 25 λa=>f 27 λb=>aX 1 a b h λc d=>aF c d λi j=>a! (ss 8 i f) j
def JW:Rg:=λf h=>f 6 λa=>f 8 λb=>bZ 9 1 16 a b h λc d=>a! (ss 6 c f) d
def JV:=r1 27 27 λa h=>aH .add .none a (Y U 1) h
def JU:=rM 2 6
def aeZ:Rg:=aB VT (aB (tT 12 a! (Out.ex 0)) (aB (bD 1 (aB LU (aB LQ (aB LP (tT 20 zz a!))))) abV))
def ack:Rg:=aB JY (aB (tT 28 a! (Out.ex 2)) (aB (bD 3 (aB JX JW)) JV))
def SS:Rg:=aB zO (aB LX (aB (aB LW (bD 0 (dG aeZ lf))) (aB LJ (aB (aB JZ (bD 2 (dG ack lf))) (aB JU b!)))))
def vT:Fun:=c_ [0,2,3,5,6,8,9,10,11,12,20,25,26,27,28] f254.ntmps [.tmp 2] SS
def acA:=fE1 vT rfl
def aiH:fu 254 vT:=prX aN [7] [] (aU apq bC) func254
def wH:FuncId->Option Fun:=pI [(163,kC),(256,uK)]
def kG:=r2 5 0 1 λa b h=>kC [a,b] h
def rX:Rg:=λf h=>f 0 λa=>f 6 λb=>aX 1 a b h λc d=>aF c d λi j=>a! (ss 7 i f) j
def rW:Rg:=λf h=>f 1 λa=>f 7 λb=>dD wH a [b] h λc d=>oUn .not c d λi j=>a! (ss 29 i f) j
def CY:Rg:=λf h=>f 0 λa=>f 5 λb=>f 7 λc=>aX 1 a b h λd i=>aS 1 d c i λ_ j=>a! f j
def AX:Rg:=λf h=>f 0 λa=>f 5 λb=>fM 1 a (some b) none none h λc d=>Uz [H []] c d λ_ i=>a! f i
def AV:Rg:=λf h=>f 0 λa=>f 5 λb=>fM 1 a none (some b) none h λc d=>a! (ss 4 c f) d
def nS:Rg:=aB (aB mD (tT 19 a! (Out.ex 0))) (aB (bD 1 (aB rX (aB rW (tT 29 (aB CY wG) a!)))) ajo)
def jO:Rg:=aB mJ (aB kG (aB (aB mF (tT 12 (aB qW b!) a!)) (aB (aB A7 (bD 0 (dG nS lf))) (aB AX (aB AV b!)))))
def lI:Fun:=c_ [0,1,4,5,6,7,12,19,29] f255.ntmps [.tmp 4] jO
def mW:=fE2 lI rfl
def aap:fu 255 lI:=prX aN [] [] (aU KG (aU aps bC)) func255
def Yu:Rg:=λf h=>f 2 λa=>eX 26 a h λb c=>a! (ss 6 .aP (ss 5 b f)) c
def Yt:=rM 7 0
def X9:=r1 8 7 λa h=>aH .eql .none a (Y .u8 43) h
def akc:Rg:=λf h=>f 1 λa=>f 5 λb=>aF b h λc d=>bU 26 [.aP,.aP] 2 [(0,1,a),(1,1,c)] d λi j=>vT [i] j λm n=>a! (ss 6 m f) n
def akb:=r1 14 7 λa h=>aH .eql .none a (Y .u8 45) h
def aj9:Rg:=λf h=>f 1 λa=>ou [a] h λb c=>f 5 λd=>eP (.func 256) [] [d] c λi j=>lI [b,i] j λm n=>a! (ss 6 m f) n
def ahu:Rg:=aB Yu (aB (aB Yt (bD 0 (aB X9 (tT 8 (aB akc b!) (aB akb (tT 14 (aB aj9 b!) a!)))))) zz)
def IG:Fun:=c_ [0,1,2,5,6,7,8,14] f159.ntmps [.tmp 6] ahu
def ahO:=fE3 IG rfl
def aG0:fu 159 IG:=prX aN [6] [] (aU aiH (aU Gf (aU aap bC))) func159
def adU:Rg:=λf h=>f 1 λa=>eX 200 a h λb c=>a! (ss 6 (Y U 0) (ss 5 b f)) c
def adT:Rg:=λf h=>f 2 λa=>aF a (aK 0 h) λb _=>f 5 λc=>aC 2 c (aK 0 h) λd _=>aC 4 d (aK 0 h) λi _=>aF i (aK 0 h) λj _=>f 3 λm=>aF m (aK 0 h) λn _=>IG [b,j,n] (aK 0 h) λo p=>f 0 λq=>f 5 λr=>aC 2 r p λs _=>aC 0 s p λt _=>aF t p λu _=>chk (λh=>aF t h) u ( BF [q,u,o] p λv w=>a! (ss 6 v f) w) 1 [(aK 0 h)]
def akY:Rg:=aB adU (aB adT b!)
def Fp:Fun:=c_ [0,1,2,3,5,6] f158.ntmps [.tmp 6] akY
def arA:=fE4 Fp rfl
def azv:fu 158 Fp:=prX aN [] [(1,[0,0,2,6,0,0,32,96,0,496,1023,2047],fU [67,80,96,115,131,146,0,16,32,52,162,176])] (aU aG0 (aU aGQ bC)) func158
def ahj:FuncId->Option Fun:=pI [(252,IC),(253,V6),(158,Fp)]
def aks:Rg:=λf h=>f 0 λa=>aO a h λb c=>aC 1 b c λd i=>aF d i λj m=>IC [j] m λn o=>a! (ss 7 n f) o
def akr:Rg:=λf h=>f 1 λa=>aZ 2 a h λb c=>a! (ss 18 (Y U 0) (ss 17 b (ss 16 a f))) c
def akp:Rg:=λf h=>f 16 λa=>f 18 λb=>aX 10 a b h λc d=>bH 10 c d λi j=>fA 200 [Y U 0,Y U 0,Y U 0,Y U 0,H [],Y U 0,.aP,.aP,Y U 0,Y U 0] j λm n=>aS 10 m i n λ_ o=>a! (ss 9 m f) o
def ako:Rg:=λf h=>f 2 λa=>f 7 λb=>f 9 λc=>bH 10 c h λd i=>dD ahj a [b,d] i λj m=>a! (ss 10 j f) m
def akn:=r1 27 10 λa h=>aH .neq .none a (Y U 0) h
def akl:Rg:=λf h=>f 0 λa=>aO a h λb c=>aC 1 b c λd i=>aF d i λj m=>f 7 λn=>V6 [j,n] m λo p=>a! f p
def azE:Rg:=aB adk (aB (tT 19 a! (Out.ex 0)) (aB (bD 1 (aB akp (aB ako (aB akn (tT 27 zz a!))))) adf))
def ahw:Rg:=aB Ol (aB aks (aB (aB akr (bD 0 (dG azE lf))) (aB akl (aB Ol b!))))
def Xu:Fun:=c_ [0,1,2,6,7,9,10,16,17,18,19,27] f157.ntmps [.tmp 6] ahw
def ayt:=fE3 Xu rfl
def aG3:fu 157 Xu:=prX aN [7] [] (aU atd (aU aJG (aU azv bC))) func157
def Xb:=r1 5 1 λa h=>Cb [a] h
def W9:Rg:=λf h=>f 0 λa=>aO a (aK 0 h) λb _=>aC 1 b (aK 0 h) λc _=>aF c (aK 0 h) λd _=>acs [d] (aK 0 h) λi j=>f 0 λm=>aO m j λn _=>aC 1 n j λo _=>aF o j λp _=>chk (λh=>aF o h) p ( IB [p] j λq r=>a! (ss 7 q (ss 6 i f)) r) 1 [(aK 0 h)]
def WY:Rg:=λf h=>f 6 λa=>aZ 2 a h λb c=>a! (ss 26 (Y U 0) (ss 25 b (ss 24 a f))) c
def WX:=r2 27 26 25 λa b h=>aH .lss .none a b h
def zV:Rg:=λf h=>f 26 λa=>f 24 λb=>aX 1 b a h λc d=>aF c d λi j=>fA 3 [Y U 0] j λm n=>aS 1 m i n λ_ o=>a! (ss 9 a (ss 10 m f)) o
def zU:Rg:=λf h=>f 5 λa=>f 10 λb=>eP (.func 222) [] [b] h λc d=>oP [a,c] d λi j=>a! (ss 11 i f) j
def zT:Rg:=λf h=>f 11 λa=>aH .geq .none a (Y U 0) (aK 0 h) λb _=>ifB b (f 0 λc=>aO c (aK 0 h) λd _=>aC 1 d (aK 0 h) λi _=>aF i (aK 0 h) λj _=>acu [j] (aK 0 h) λm n=>f 5 λo=>f 11 λp=>aX 8 o p n λq _=>aC 5 q n λr _=>aF r n λs _=>chk (λh=>aF r h) s ( f 7 λt=>f 9 λu=>aX 1 t u n λv _=>aF v n λw _=>chk (λh=>aF v h) w ( bW [Y U 0,Y U 0] [(0,1,m),(1,1,w)] n λx _=>kV [s,x] n λy z=>a! (ss 53 y f) z) 1 [(aK 0 h)]) 1 [(aK 0 h)]) (a! (ss 53 (K false) f) (aK 0 h))
def WW(fr:F)(h:Hp):Out:=
 fr 8 λa=>fr 9 λb=>aH .add .none b (Y U 1) (aK 1 h) λc _=>
 fr 7 λd=>fr 9 λi=>aX 1 d i (aK 1 h) λj _=>
 aF j (aK 1 h) λm _=>
 fr 5 λn=>fr 11 λo=>aX 8 n o (aK 1 h) λp _=>
 bH 8 p (aK 1 h) λq _=>
 bW [Y U 0,Y U 0,Y U 0,Y U 0,H [],Y U 0,.aP,.aP,Y U 0,Y U 0] [(0,1,c),(1,1,m),(2,8,q)] (aK 1 h) λr _=>
 Aw (eH 200 [Y U 0,Y U 0,Y U 0,Y U 0,H [],Y U 0,.aP,.aP,Y U 0,Y U 0] 1 [(0,10,r)]) λf e=>
 bZ 200 10 120 a (e (Hp.next h)) (Hp.put (aK 1 h) (Hp.next h) (some f)) λs t=>
 a! (ss 8 s fr) t
def VO:=r1 26 26 λa h=>aH .add .none a (Y U 1) h
def VN:=rM 4 8
def apC:Rg:=aB WX (aB (tT 27 a! (Out.ex 0)) (aB (bD 1 (aB zV (aB zU (aB zT (tT 53 WW a!))))) VO))
def aeH:Rg:=aB mJ (aB Xb (aB W9 (aB adn (aB (aB WY (bD 0 (dG apC lf))) (aB VN b!)))))
def sG:Fun:=c_ [0,1,4,5,6,7,8,9,10,11,24,25,26,27,53] f134.ntmps [.tmp 4] aeH
def amC:=fE2 sG rfl
def aeJ:fu 134 sG:=prX aN [] [(2,[0,1,3,7,15,0,32,96,224,511,1023,2047],fU [0,16,32,51,66,80,96,112,132,146,160,176]),(8,[0,1,3,7,7,31,63,127,7,263,775,1799,3847,7,7,24583,57351,130823,262143,524287],fU [0,16,32,128,144,160,179,194,48,64,80,96,116,208,224,240,260,272,290,304]),(9,[0,0,2,0,0,24,56,0,0,384,896,2046,4094,8191,16383],fU [0,16,32,48,64,80,99,112,128,144,163,176,193,210,224])] (aU acd (aU aJD (aU ahA (aU PN (aU aJE (aU aeY bC)))))) func134
abbrev ahK:Fun:=Ik.awZ
def aGT:fu 224 ahK:=Ik.aJj
def abP:Rg:=λf h=>f 0 λa=>eX 138 a h λb c=>(ss 2 b f) 1 λd=>eX 149 d c λi j=>a! (ss 5 (K false) (ss 4 .aP (ss 3 i (ss 2 b f)))) j
def abO:Rg:=λf h=>f 3 λa=>aC 0 a h λb c=>aF b c λd i=>aH .eql .none d (Y U 3) i λj m=>a! (ss 12 j f) m
def abN:Rg:=λf h=>f 2 λa=>aF a h λb c=>aO b c λd i=>aC 0 d i λj m=>aF j m λn o=>aO n o λp q=>aC 1 p q λr s=>aF r s λt u=>IB [t] u λv w=>a! (ss 6 v f) w
def abM:=r1 7 6 λa h=>aZ 2 a h
def abL:Rg:=λf h=>f 2 λa=>aF a h λb c=>aO b c λd i=>aC 4 d i λj m=>aF j m λn o=>ifB n (f 7 λp=>aH .gtr .none p (Y U 0) o λq r=>a! (ss 30 q f) r) (a! (ss 30 (K false) f) o)
def ao2:Rg:=λf h=>f 6 λa=>f 7 λb=>aH .sub .none b (Y U 1) h λc d=>aX 1 a c d λi j=>aF i j λm n=>a! (ss 7 m f) n
def abK:Rg:=λf h=>f 3 λa=>aC 1 a h λb c=>aF b c λd i=>f 7 λj=>ahK [d,j] i λm n=>bK 0 m n λo p=>bK 1 m p λq r=>fA 96 [.aP] r λs t=>aS 1 s o t λ_ u=>a! (ss 9 q (ss 8 s f)) u
def abJ:=r1 44 9 λa h=>aH .neq .none a (Y U 0) h
def XU:Rg:=λf h=>f 2 λa=>aF a (aK 0 h) λb _=>aO b (aK 0 h) λc _=>aC 0 c (aK 0 h) λd _=>aF d (aK 0 h) λi _=>f 2 λj=>aF j (aK 0 h) λm _=>aO m (aK 0 h) λn _=>aC 1 n (aK 0 h) λo _=>aF o (aK 0 h) λp _=>sG [i,p] (aK 0 h) λq r=>f 8 λs=>f 2 λt=>eP (.func 225) [] [s,t] r λu _=>jA [q,u] r λv w=>a! (ss 5 (K true) (ss 4 v f)) w
def amo:Rg:=aB abP (aB (aB abO (tT 12 zz a!)) (aB abN (aB abM (aB (aB abL (tT 30 ao2 a!)) (aB abK (aB (aB abJ (tT 44 zz a!)) (aB XU b!)))))))
def NI:Fun:=c_ [0,1,2,3,4,5,6,7,8,9,12,30,44] f135.ntmps [.tmp 4,.tmp 5] amo
def azT:=fE2 NI rfl
def ax5:fu 135 NI:=prX aN [2,9] [(10,[0,1,3,7,0,16,48,112,255,0,1023,2047,4095],fU [3,16,32,51,67,80,96,115,130,144,162,176,192])] (aU ahA (aU aGT (aU aeJ (aU EW bC)))) func135
abbrev TL:Fun:=Ik.alQ
def aEl:fu 142 TL:=Ik.aJl
def apI:Fun:=c_ [0,1,2,4,5,40] f143.ntmps [.tmp 4,.tmp 5] aHp
def aEk:fu 143 apI:=prX aN [0,1,2,3] [] bC func143
def aen:Rg:=λf h=>f 0 λa=>eX 213 a h λb c=>a! (ss 2 (K false) (ss 1 b f)) c
def aem:Rg:=λf h=>f 1 λa=>aC 1 a h λb c=>aF b c λd i=>a! (ss 2 d f) i
def ak3:Rg:=aB aen (aB aem b!)
def FB:Fun:=c_ [0,1,2] f150.ntmps [.tmp 2] ak3
def arG:=fE1 FB rfl
def azA:fu 150 FB:=prX aN [] [] bC func150
def ake:Rg:=λf h=>f 0 λa=>eX 213 a h λb c=>a! (ss 3 (K false) (ss 2 b f)) c
def as4:Rg:=aB ake (aB ajT b!)
def P8:Fun:=c_ [0,1,2,3] f235.ntmps [.tmp 3] as4
def ayr:=fE2 P8 rfl
def aG1:fu 235 P8:=prX aN [] [] bC func235
def oN:FuncId->Option Fun:=pI [(150,FB),(235,P8)]
def JM:Rg:=λf h=>f 1 λa=>f 0 λb=>f 5 λc=>aX 3 b c h λd i=>bH 3 d i λj m=>dD oN a [j] m λn o=>a! (ss 16 n f) o
def KN:Rg:=aB LD (aB (tT 9 a! (Out.ex 0)) (aB (bD 1 (aB LC (aB JM (tT 16 (aB Ls b!) a!)))) Lr))
def Bq:Rg:=aB axJ (aB (aB LG (bD 0 (dG KN lf))) (aB Lm b!))
def uJ:Fun:=c_ [0,1,4,5,7,8,9,16] f249.ntmps [.tmp 4] Bq
def aav:=fE2 uJ rfl
def ahF:fu 249 uJ:=prX aN [] [] (aU azA (aU aG1 bC)) func249
def Dq:Rg:=λf h=>f 0 λa=>f 1 λb=>uJ [a,b] h λc d=>aH .geq .none c (Y U 0) d λi j=>a! (ss 4 i f) j
def Ir:Rg:=aB af7 (aB Dq b!)
def iY:Fun:=c_ [0,1,4] f149.ntmps [.tmp 4] Ir
def Wi:=fE2 iY rfl
def Iw:fu 149 iY:=prX aN [] [] (aU ahF bC) func149
def ao4:Rg:=λf h=>f 1 λa=>eX 9 a h λb c=>a! (ss 4 (K false) (ss 3 b f)) c
def ao3:Rg:=λf h=>f 0 λa=>f 3 λb=>eP (.func 235) [] [b] h λc d=>iY [a,c] d λi j=>a! (ss 4 i f) j
def axS:Rg:=aB ao4 (aB ao3 b!)
def NJ:Fun:=c_ [0,1,3,4] f146.ntmps [.tmp 4] axS
def azU:=fE2 NJ rfl
def aJM:fu 146 NJ:=prX aN [] [] (aU Iw bC) func146
def agI:Rg:=λf h=>f 0 λa=>aO a (aK 0 h) λb _=>aC 0 b (aK 0 h) λc _=>aF c (aK 0 h) λd _=>f 0 λi=>aO i (aK 0 h) λj _=>aC 1 j (aK 0 h) λm _=>aF m (aK 0 h) λn _=>sG [d,n] (aK 0 h) λo p=>a! (ss 5 o f) p
def agG:Rg:=λf h=>f 1 λa=>aZ 2 a h λb c=>a! (ss 21 (Y U 0) (ss 20 b (ss 19 a f))) c
def agF:=r2 22 21 20 λa b h=>aH .lss .none a b h
def agE:Rg:=λf h=>f 19 λa=>f 21 λb=>aX 10 a b h λc d=>bH 10 c d λi j=>fA 200 [Y U 0,Y U 0,Y U 0,Y U 0,H [],Y U 0,.aP,.aP,Y U 0,Y U 0] j λm n=>aS 10 m i n λ_ o=>a! (ss 8 m f) o
def agD:Rg:=λf h=>f 5 λa=>f 8 λb=>eP (.func 250) [] [b] h λc d=>jP [a,c] d λi j=>a! (ss 9 i f) j
def agC:Rg:=λf h=>f 6 λa=>f 5 λb=>f 9 λc=>aX 10 b c h λd i=>bH 10 d i λj m=>bU 200 [Y U 0,Y U 0,Y U 0,Y U 0,H [],Y U 0,.aP,.aP,Y U 0,Y U 0] 1 [(0,10,j)] m λn o=>bZ 200 10 120 a n o λp q=>a! (ss 6 p f) q
def agB:=r1 21 21 λa h=>aH .add .none a (Y U 1) h
def agA:=rM 4 6
def ax9:Rg:=aB agF (aB (tT 22 a! (Out.ex 0)) (aB (bD 1 (aB agE (aB agD agC))) agB))
def apg:Rg:=aB mJ (aB agI (aB adq (aB (aB agG (bD 0 (dG ax9 lf))) (aB agA b!))))
def Cj:Fun:=c_ [0,1,4,5,6,8,9,19,20,21,22] f151.ntmps [.tmp 4] apg
def atS:=fE2 Cj rfl
def apt:fu 151 Cj:=prX aN [] [(1,[0,1,3,7,0,16,48,112,255,511],fU [0,16,32,51,64,80,96,115,130,144])] (aU aeJ (aU Iu bC)) func151
def aad:Rg:=λf h=>f 0 λa=>eX 200 a h λb c=>a! (ss 4 (H []) (ss 2 b f)) c
def aac:Rg:=λf h=>f 2 λa=>aC 0 a h λb c=>aF b c λd i=>jy [d] i λj m=>aH .add .none (H [42,32]) j m λn o=>aH .add .none n (H [32,70,69,84,67,72,32,40]) o λp q=>f 1 λr=>Xw [r,H [32]] q λs t=>aH .add .none p s t λu v=>aH .add .none u (H [41]) v λw x=>a! (ss 4 w f) x
def ahv:Rg:=aB aad (aB aac b!)
def BH:Fun:=c_ [0,1,2,4] f152.ntmps [.tmp 4] ahv
def apK:=fE2 BH rfl
def ax6:fu 152 BH:=prX aN [] [] (aU Om (aU apx bC)) func152
def aji:Rg:=λf h=>f 0 λa=>aH .eql (.ptr 3) a .dn h λb c=>ifB b (a! (ss 23 (K true) f) c) (f 2 λd=>aH .lss .none d (Y U 1) c λi j=>ifB i (a! (ss 23 (K true) f) j) (aO a j λm n=>aC 1 m n λo p=>aF o p λq r=>aZ 2 q r λs t=>aH .gtr .none d s t λu v=>a! (ss 23 u f) v))
def ajh:Rg:=λf h=>f 0 λa=>aO a h λb c=>aC 1 b c λd i=>aF d i λj m=>f 2 λn=>aH .sub .none n (Y U 1) m λo p=>aX 3 j o p λq r=>bH 3 q r λs t=>fA 248 [Y U 0,Y U 0,.dn] t λu v=>aS 3 u s v λ_ w=>a! (ss 6 u f) w
def ajg:Rg:=λf h=>f 1 λa=>f 0 λb=>aO b h λc d=>aC 0 c d λi j=>aF i j λm n=>ve [a,m] n λo p=>aZ 2 o p λq r=>a! (ss 39 (Y U 0) (ss 38 q (ss 37 o f))) r
def ajf:=r2 40 39 38 λa b h=>aH .lss .none a b h
def NY:Rg:=λf h=>f 37 λa=>f 39 λb=>aX 9 a b h λc d=>bH 9 c d λi j=>fA 250 [Y U 0,Y U 0,Y U 0,H [],Y U 0,.aP,.aP,Y U 0,Y U 0] j λm n=>aS 9 m i n λ_ o=>a! (ss 8 m f) o
def NW(fr:F)(h:Hp):Out:=
 fr 8 λa=>aC 0 a h λb c=>
 aF b c λd i=>
 fr 6 λj=>aC 0 j i λm n=>
 aF m n λo p=>
 aH .eql .none d o p λq r=>
 ifB q (aC 1 a r λs t=>
 aC 0 s t λu v=>
 aF u v λw x=>
 aC 1 j x λy z=>
 aF y z λe f=>
 aH .eql .none w e f λg k=>
 a! (ss 55 g fr) k) (a! (ss 55 (K false) fr) r)
def aje:Rg:=λf h=>f 6 λa=>aC 2 a h λb c=>aF b c λd i=>f 8 λj=>aC 1 j i λm n=>aC 6 m n λo p=>aF o p λq r=>kE [d,q] r λs t=>a! f t
def ajd:=r1 39 39 λa h=>aH .add .none a (Y U 1) h
def azD:Rg:=aB ajf (aB (tT 40 a! (Out.ex 0)) (aB (bD 1 (aB NY (aB NW (tT 55 aje a!)))) ajd))
def ahm:Rg:=aB (aB aji (tT 23 b! a!)) (aB ajh (aB ajg (bD 0 (dG azD lf))))
def BA:Fun:=c_ [0,1,2,6,8,23,37,38,39,40,55] f153.ntmps [] ahm
def ayc:=fE3 BA rfl
def as9:fu 153 BA:=prX aN [] [] (aU YG (aU BX bC)) func153
def akM:=rM 3 0
def akL:=r1 4 3 λa h=>aH .eql .none a (H [36,97,110,115,119,101,114,101,100]) h
def akK:=rC 2 (H [92,65,110,115,119,101,114,101,100])
def akJ:=r1 6 3 λa h=>aH .eql .none a (H [36,102,108,97,103,103,101,100]) h
def akI:=rC 2 (H [92,70,108,97,103,103,101,100])
def akH:=r1 8 3 λa h=>aH .eql .none a (H [36,100,101,108,101,116,101,100]) h
def akG:=rC 2 (H [92,68,101,108,101,116,101,100])
def akF:=r1 10 3 λa h=>aH .eql .none a (H [36,115,101,101,110]) h
def akE:=rC 2 (H [92,83,101,101,110])
def ag9:=r1 12 3 λa h=>aH .eql .none a (H [36,100,114,97,102,116]) h
def ag8:=rC 2 (H [92,68,114,97,102,116])
def as7:Rg:=aB axG (aB (aB akM (bD 0 (aB akL (tT 4 (aB akK b!) (aB akJ (tT 6 (aB akI b!) (aB akH (tT 8 (aB akG b!) (aB akF (tT 10 (aB akE b!) (aB ag9 (tT 12 (aB ag8 b!) a!)))))))))))) (aB Sm b!))
def Xv:Fun:=c_ [0,2,3,4,6,8,10,12] f286.ntmps [.tmp 2] as7
def ayw:=fE1 Xv rfl
def aG5:fu 286 Xv:=prX aN [] [] bC func286
def akB:Rg:=λf h=>f 0 λa=>aZ 2 a h λb c=>a! (ss 8 (Y U 0) (ss 7 b (ss 6 a f))) c
def akz:Rg:=λf h=>f 6 λa=>f 8 λb=>aX 1 a b h λc d=>aF c d λi j=>a! (ss 5 i f) j
def aky:Rg:=λf h=>f 3 λa=>f 5 λb=>Xv [b] h λc d=>bU 9 [H []] 1 [(0,1,c)] d λi j=>bZ 9 1 16 a i j λm n=>a! (ss 3 m f) n
def akw:Rg:=λf h=>f 3 λa=>Xw [a,H [32]] h λb c=>aH .add .none (H [40]) b c λd i=>aH .add .none d (H [41]) i λj m=>a! (ss 2 j f) m
def azF:Rg:=aB LD (aB (tT 9 a! (Out.ex 0)) (aB (bD 1 (aB akz aky)) Lr))
def ahx:Rg:=aB axG (aB agf (aB (aB akB (bD 0 (dG azF lf))) (aB akw b!)))
def II:Fun:=c_ [0,2,3,5,6,7,8,9] f180.ntmps [.tmp 2] ahx
def ayv:=fE1 II rfl
def atf:fu 180 II:=prX aN [] [] (aU aG5 (aU apx bC)) func180
def aee:Rg:=λf h=>f 0 λa=>eX 200 a h λb c=>a! (ss 2 (H []) (ss 1 b f)) c
def aed:Rg:=λf h=>f 1 λa=>aC 2 a h λb c=>aC 4 b c λd i=>aF d i λj m=>II [j] m λn o=>a! (ss 2 n f) o
def ak1:Rg:=aB aee (aB aed b!)
def Fv:Fun:=c_ [0,1,2] f236.ntmps [.tmp 2] ak1
def arD:=fE1 Fv rfl
def azx:fu 236 Fv:=prX aN [] [] (aU atf bC) func236
def ao8:FuncId->Option Fun:=pI [(135,NI),(142,TL),(146,NJ),(149,iY),(151,Cj),(152,BH),(98,uM),(153,BA),(236,Fv)]
def ag0:Rg:=λf h=>f 1 λa=>aO a h λb c=>aC 3 b c λd i=>aF d i λj m=>aZ 2 j m λn o=>aH .lss .none n (Y U 2) o λp q=>ifB p (a! (ss 31 (K true) f) q) (aO a q λr s=>aC 3 r s λt u=>aF t u λv w=>aZ 2 v w λx y=>aH .gtr .none x (Y U 3) y λz e=>a! (ss 31 z f) e)
def agZ:Rg:=λf h=>f 1 λa=>aO a h λb c=>aC 3 b c λd i=>aF d i λj m=>aX 3 j (Y U 0) m λn o=>bH 3 n o λp q=>NI [a,p] q λr s=>bK 0 r s λt u=>bK 1 r u λv w=>a! (ss 6 v (ss 5 t f)) w
def agY:Rg:=λf h=>f 1 λa=>aO a h λb c=>aC 3 b c λd i=>aF d i λj m=>aX 3 j (Y U 1) m λn o=>bH 3 n o λp q=>TL [p] q λr s=>bK 0 r s λt u=>bK 1 r u λv w=>a! (ss 8 v (ss 7 t f)) w
def agX:Rg:=λf h=>f 6 λa=>oUn .not a h λb c=>ifB b (a! (ss 59 (K true) f) c) (f 8 λd=>oUn .not d c λi j=>a! (ss 59 i f) j)
def agW:Rg:=λf h=>f 1 λa=>aO a h λb c=>aC 3 b c λd i=>aF d i λj m=>aZ 2 j m λn o=>aH .eql .none n (Y U 3) o λp q=>a! (ss 66 p f) q
def aeF:Rg:=λf h=>f 1 λa=>aO a h λb c=>aC 4 b c λd i=>aF d i λj m=>ifB j (f 7 λn=>NJ [n,H [85,73,68]] m λo p=>oUn .not o p λq r=>a! (ss 98 q f) r) (a! (ss 98 (K false) f) m)
def aeE:Rg:=λf h=>f 0 λa=>aO a h λb c=>aC 2 b c λd i=>aF d i λj m=>oUn .not j m λn o=>ifB n (f 7 λp=>iY [p,(.func (.func 150) .nil .nil)] o λq r=>a! (ss 111 q f) r) (a! (ss 111 (K false) f) o)
def aeD:Rg:=λf h=>f 1 λa=>f 5 λb=>Cj [a,b] h λc d=>aZ 2 c d λi j=>a! (ss 137 (Y U 0) (ss 136 i (ss 135 c f))) j
def aeC:=r2 138 137 136 λa b h=>aH .lss .none a b h
def aeB:Rg:=λf h=>f 135 λa=>f 137 λb=>aX 10 a b h λc d=>bH 10 c d λi j=>fA 200 [Y U 0,Y U 0,Y U 0,Y U 0,H [],Y U 0,.aP,.aP,Y U 0,Y U 0] j λm n=>aS 10 m i n λ_ o=>a! (ss 14 m f) o
def aeA:=rC 15 .aP
def aez:Rg:=λf h=>f 7 λa=>aZ 2 a h λb c=>a! (ss 143 (Y U 0) (ss 142 b (ss 141 a f))) c
def aey:=r2 144 143 142 λa b h=>aH .lss .none a b h
def aex:Rg:=λf h=>f 141 λa=>f 143 λb=>aX 3 a b h λc d=>bH 3 c d λi j=>fA 213 [H [],(K false),.gV] j λm n=>aS 3 m i n λ_ o=>a! (ss 17 m f) o
def aew(fr:F)(h:Hp):Out:=
 fr 17 λa=>aC 2 a (aK 1 h) λb _=>
 aF b (aK 1 h) λc _=>
 fr 14 λd=>bH 10 d (aK 1 h) λi _=>
 dD ao8 c [i] (aK 1 h) λj m=>
 fr 15 λn=>fr 17 λo=>aC 0 o m λp _=>
 aF p m λq _=>chk (λh=>aF p h) q (
 aH .add .none q (H [32]) m λr _=>
 aH .add .none r j m λs _=>
 Aw (eH 9 [H []] 1 [(0,1,s)]) λf e=>
 bZ 9 1 16 n (e (Hp.next h)) (Hp.put m (Hp.next h) (some f)) λt u=>
 a! (ss 15 t fr) u) 1 [(aK 1 h)]
def aev:=r1 143 143 λa h=>aH .add .none a (Y U 1) h
def aeu:Rg:=λf h=>f 1 λa=>f 14 λb=>bH 10 b h λc d=>f 15 λi=>BH [c,i] d λj m=>bU 9 [H []] 1 [(0,1,j)] m λn o=>uM [a,n] o λp q=>a! f q
def aes:=r1 166 7 λa h=>NJ [a,H [70,76,65,71,83]] h
def aer:Rg:=λf h=>f 0 λa=>aO a (aK 0 h) λb _=>aC 1 b (aK 0 h) λc _=>aF c (aK 0 h) λd _=>f 1 λi=>aO i (aK 0 h) λj _=>aC 1 j (aK 0 h) λm _=>aF m (aK 0 h) λn _=>f 14 λo=>aC 0 o (aK 0 h) λp _=>aF p (aK 0 h) λq _=>BA [d,n,q] (aK 0 h) λr s=>a! f s
def aep:=r1 137 137 λa h=>aH .add .none a (Y U 1) h
def aeo:Rg:=λf h=>f 1 λa=>aO a h λb c=>aC 4 b c λd i=>aF d i λj m=>oUn .not j m λn o=>bW [Y U 0,H [],(K false),(K false),(K false)] [(4,1,n)] o λp q=>f 4 λr=>aS 5 r p q λ_ s=>a! f s
def aeQ:Rg:=aB aey (aB (tT 144 a! (Out.ex 4)) (aB (bD 5 (aB aex aew)) aev))
def aeR:Rg:=aB aeC (aB (tT 138 a! (Out.ex 2)) (aB (bD 3 (aB aeB (aB aeA (aB (aB aez (bD 4 (dG aeQ lf))) (aB aeu (aB aes (tT 166 aer a!))))))) aep))
def aph:Rg:=aB aCB (aB (aB ag0 (tT 31 zz a!)) (aB agZ (aB agY (aB (aB agX (tT 59 zz a!)) (aB (aB agW (tT 66 zz a!)) (aB (aB aeF (tT 98 zz a!)) (aB (aB aeE (tT 111 zz a!)) (aB (aB aeD (bD 2 (dG aeR lf))) (aB aeo b!)))))))))
def TN:Fun:=c_ [0,1,4,5,6,7,8,9,10,12,14,15,17,31,59,66,78,85,98,111,112,113,114,115,135,136,137,138,141,142,143,144,166] f72.ntmps [.cell 4 145] aph
def atU:=fE2 TN rfl
def aEn:fu 72 TN:=prX aN [2,6,8,9,10,11,12,13,15,17,18,19,20,21] [(29,[0,0,2,6,0,16,0,112,254,510,1023,2047],fU [64,83,99,114,0,16,36,48,128,145,162,176]),(33,[0,1,3,7,0,16,48,112,0,256,1023],fU [0,16,32,51,64,80,96,115,128,147,162])] (aU ax5 (aU aEl (aU aJM (aU Iw (aU apt (aU ax6 (aU aur (aU as9 (aU azx bC))))))))) func72
abbrev pU:Fun:=Ik.af4
def aJO:fu 212 pU:=Ik.awR
def agV:Rg:=λf h=>a! (ss 4 (K false) (ss 3 (Y U 0) (ss 2 .aP f))) h
def agR:Rg:=λf h=>f 0 λa=>aZ 2 a h λb c=>a! (ss 13 (Y U 0) (ss 12 b (ss 11 a f))) c
def agP:Rg:=λf h=>f 11 λa=>f 13 λb=>aX 3 a b h λc d=>bH 3 c d λi j=>fA 149 [Y U 0,H [],.aP] j λm n=>aS 3 m i n λ_ o=>a! (ss 8 m f) o
def agO:Rg:=λf h=>f 8 λa=>aC 0 a h λb c=>aF b c λd i=>aH .eql .none d (Y U 3) i λj m=>a! (ss 19 j f) m
def agN:Rg:=λf h=>f 8 λa=>aC 1 a h λb c=>aF b c λd i=>pU [d] i λj m=>bK 0 j m λn o=>bK 1 j o λp q=>a! (ss 10 p (ss 9 n f)) q
def agL:=r1 27 10 λa h=>oUn .not a h
def ael:Rg:=λf h=>f 5 λa=>f 9 λb=>bU 9 [H []] 1 [(0,1,b)] h λc d=>bZ 9 1 16 a c d λi j=>a! (ss 5 i f) j
def aej:Rg:=λf h=>f 5 λa=>f 6 λb=>a! (ss 4 (K true) (ss 3 b (ss 2 a f))) h
def aya:Rg:=aB Po (aB (tT 14 a! (Out.ex 0)) (aB (bD 1 (aB agP (aB (aB agO (tT 19 zz a!)) (aB agN (aB (aB agL (tT 27 zz a!)) ael))))) Pg))
def ab8:Rg:=aB agV (aB acY (aB Ol (aB (aB agR (bD 0 (dG aya lf))) (aB aej b!))))
def TM:Fun:=c_ [0,2,3,4,5,6,8,9,10,11,12,13,14,19,27] f129.ntmps [.tmp 2,.tmp 3,.tmp 4] ab8
def atT:=fE1 TM rfl
def aEm:fu 129 TM:=prX aN [7,10] [] (aU aJO bC) func129
abbrev Ce:Fun:=Ik.aso
def ari:fu 251 Ce:=Ik.aF4
def X8:Rg:=λf h=>f 0 λa=>eX 149 a h λb c=>a! (ss 4 (K false) (ss 3 (K false) (ss 2 (Y .u8 0) (ss 1 b f)))) c
def X7:Rg:=λf h=>f 1 λa=>aC 1 a h λb c=>aF b c λd i=>BI [d] i λj m=>Ce [j,H [46,115,105,108,101,110,116]] m λn o=>bK 0 n o λp q=>bK 1 n q λr s=>a! (ss 3 r (ss 5 p f)) s
def XZ:Rg:=λf h=>f 1 λa=>aC 0 a h λb c=>aF b c λd i=>aH .neq .none d (Y U 1) i λj m=>a! (ss 13 j f) m
def XY:=r1 17 5 λa h=>aH .eql .none a (H [102,108,97,103,115]) h
def XW:=r1 21 5 λa h=>aH .eql .none a (H [43,102,108,97,103,115]) h
def aj8:=r1 21 5 λa h=>aH .eql .none a (H [45,102,108,97,103,115]) h
def XV:Rg:=λf h=>f 5 λa=>jY a (Y U 0) h λb c=>f 3 λd=>a! (ss 4 (K true) (ss 3 d (ss 2 b f))) c
def aht:Rg:=aB X8 (aB X7 (aB (bD 0 (aB XZ (tT 13 zz (aB XY (tT 17 zz (aB (aB XW (tT 21 a! aj8)) (tT 21 (aB XV b!) a!))))))) zz))
def Xr:Fun:=c_ [0,1,2,3,4,5,13,17,21] f154.ntmps [.tmp 2,.tmp 3,.tmp 4] aht
def ayq:=fE1 Xr rfl
def aGZ:fu 154 Xr:=prX aN [3,5,9] [] (aU ahH (aU ari bC)) func154
def ath:Fun:=c_ [0,2,3,4,6,7,8,10,11,12,13,14,15,20,35,50,51,52,53,63] f161.ntmps [.tmp 2] aHp
def aGS:fu 161 ath:=prX aN [0,1,2,3,4,5,6,7,8,9,10,11,12,13,14,15,16,17,18,19,20,21,22] [] bC func161
def Ky:Rg:=λf h=>f 1 λa=>eX 138 a h λb c=>fA 145 [Y U 0,H [],(K false),(K false),(K false)] c λd i=>a! (ss 4 d (ss 3 b f)) i
def Kw:Rg:=λf h=>f 3 λa=>aF a h λb c=>aO b c λd i=>aC 3 d i λj m=>aF j m λn o=>a! (ss 5 n f) o
def Kv:Rg:=λf h=>f 5 λa=>aZ 2 a h λb c=>aH .lss .none b (Y U 3) c λd i=>a! (ss 27 d f) i
def Ku:Rg:=λf h=>f 3 λa=>aF a (aK 0 h) λb _=>f 5 λc=>aX 3 c (Y U 0) (aK 0 h) λd _=>bH 3 d (aK 0 h) λi _=>NI [b,i] (aK 0 h) λj m=>bK 0 j m λn _=>bK 1 j m λo _=>a! (ss 7 o (ss 6 n f)) m
def Kt:Rg:=λf h=>f 5 λa=>fM 3 a (some (Y U 1)) none none h λb c=>a! (ss 5 b f) c
def Kr(fr:F)(h:Hp):Out:=
 Aw (QG 3 [Y U 0]) λg e=>
 Aw (QG 4 [(K false)]) λk f=>
 aS 1 (e (Hp.next h)) (Y U 0) (Hp.put (Hp.put (aK 2 h) (Hp.next h) (some g)) (Pos.succ (Hp.next h)) (some k)) λ_ a=>
 fr 5 λb=>aX 3 b (Y U 0) a λc _=>
 aC 0 c a λd _=>
 aF d a λi _=>chk (λh=>aF d h) i (
 aH .eql .none i (Y U 3) a λj _=>
 aS 1 (f (Pos.succ (Hp.next h))) j a λ_ m=>
 a! (ss 9 (f (Pos.succ (Hp.next h))) (ss 8 (e (Hp.next h)) fr)) m) 1 [(aK 2 h)]
def Kq:=r1 44 9 λa h=>aF a h
def VI:=rC 10 (K false)
def VH:Rg:=λf h=>f 5 λa=>aX 3 a (Y U 0) h λb c=>bH 3 b c λd i=>apI [d,H [117,110,99,104,97,110,103,101,100,115,105,110,99,101]] i λj m=>bK 0 j m λn o=>bK 1 j o λp q=>f 8 λr=>aS 1 r n q λ_ s=>a! (ss 10 p f) s
def Rk:Rg:=λf h=>f 7 λa=>ifB a (f 10 λb=>a! (ss 7 b f) h) (a! (ss 7 (K false) f) h)
def Rh:Rg:=λf h=>f 7 λa=>oUn .not a h λb c=>ifB b (a! (ss 64 (K true) f) c) (f 5 λd=>aZ 2 d c λi j=>aH .lss .none i (Y U 2) j λm n=>a! (ss 64 m f) n)
def Rf:Rg:=λf h=>f 5 λa=>aX 3 a (Y U 0) h λb c=>bH 3 b c λd i=>Xr [d] i λj m=>bK 0 j m λn o=>bK 1 j o λp q=>bK 2 j q λr s=>fA 5 [(Y .u8 0)] s λt u=>aS 1 t n u λ_ v=>a! (ss 7 r (ss 12 p (ss 11 t f))) v
def Q8:Rg:=λf h=>f 5 λa=>aZ 2 a h λb c=>aH .eql .none b (Y U 1) c λd i=>ifB d (aX 3 a (Y U 0) i λj m=>aC 0 j m λn o=>aF n o λp q=>aH .eql .none p (Y U 3) q λr s=>a! (ss 85 r f) s) (a! (ss 85 (K false) f) i)
def Q7:Rg:=λf h=>f 5 λa=>aX 3 a (Y U 0) h λb c=>aC 2 b c λd i=>aF d i λj m=>a! (ss 5 j f) m
def Q5:Rg:=λf h=>f 5 λa=>TM [a] h λb c=>bK 0 b c λd i=>bK 1 b i λj m=>bK 2 b m λn o=>fA 26 [.aP] o λp q=>aS 1 p d q λ_ r=>a! (ss 14 j (ss 13 p f)) r
def QZ:=rC 16 (.func (.func 155) .nil .nil)
def QY:=r1 96 7 λa h=>oUn .not a h
def QX:=r2 96 5 16 λa b h=>lJ [a,b] h
def QW:Rg:=λf h=>f 0 λa=>aO a h λb c=>aC 2 b c λd i=>aF d i λj m=>a! (ss 103 j f) m
def aea:Rg:=λf h=>aus [] h λa b=>f 4 λc=>aS 5 c a b λ_ d=>a! f d
def QV:=r1 109 14 λa h=>aH .neq .none a (Y U 0) h
def ad9:Rg:=λf h=>f 14 λa=>YO [a] h λb c=>f 4 λd=>aS 5 d b c λ_ i=>a! f i
def QU:Rg:=λf h=>fA 36 [.aP] h λa b=>a! (ss 17 a f) b
def QT:Rg:=λf h=>f 6 λa=>f 9 λb=>f 8 λc=>f 17 λd=>f 3 λi=>eP (.func 156) [] [b,c,d,i] h λj m=>jA [a,j] m λn o=>a! (ss 6 n f) o
def QS:Rg:=λf h=>f 3 λa=>aF a h λb c=>f 6 λd=>f 11 λi=>f 13 λj=>eP (.func 158) [] [i,j] c λm n=>Xu [b,d,m] n λo p=>a! (ss 14 o f) p
def QO:=r1 122 14 λa h=>aH .neq .none a (Y U 0) h
def QN:Rg:=λf h=>f 3 λa=>aF a h λb c=>f 6 λd=>Cj [b,d] c λi j=>aZ 2 i j λm n=>a! (ss 129 (Y U 0) (ss 128 m (ss 127 i f))) n
def ad7:=r2 130 129 128 λa b h=>aH .lss .none a b h
def ad6:Rg:=λf h=>f 127 λa=>f 129 λb=>aX 10 a b h λc d=>bH 10 c d λi j=>fA 200 [Y U 0,Y U 0,Y U 0,Y U 0,H [],Y U 0,.aP,.aP,Y U 0,Y U 0] j λm n=>aS 10 m i n λ_ o=>a! (ss 19 m f) o
def ad5:=r1 134 12 λa h=>oUn .not a h
def ad4:Rg:=λf h=>f 0 λa=>aO a (aK 0 h) λb _=>aC 1 b (aK 0 h) λc _=>aF c (aK 0 h) λd _=>f 3 λi=>aF i (aK 0 h) λj _=>aO j (aK 0 h) λm _=>aC 1 m (aK 0 h) λn _=>aF n (aK 0 h) λo _=>f 19 λp=>aC 0 p (aK 0 h) λq _=>aF q (aK 0 h) λr _=>BA [d,o,r] (aK 0 h) λs t=>a! f t
def ad3:=r1 129 129 λa h=>aH .add .none a (Y U 1) h
def QM:Rg:=λf h=>f 3 λa=>aF a h λb c=>aO b c λd i=>aC 4 d i λj m=>aF j m λn o=>oUn .not n o λp q=>bW [Y U 0,H [],(K false),(K false),(K false)] [(4,1,p)] q λr s=>fA 145 [Y U 0,H [],(K false),(K false),(K false)] s λt u=>aS 5 t r u λ_ v=>a! (ss 20 t f) v
def QL:Rg:=λf h=>f 17 λa=>aF a h λb c=>aZ 2 b c λd i=>aH .gtr .none d (Y U 0) i λj m=>a! (ss 163 j f) m
def ad2:Rg:=λf h=>f 17 λa=>aF a h λb c=>ath [b] c λd i=>aH .add .none (H [77,79,68,73,70,73,69,68,32]) d i λj m=>f 20 λn=>aC 1 n m λo p=>aS 1 o j p λ_ q=>a! f q
def QK:Rg:=λf h=>f 20 λa=>bH 5 a h λb c=>f 4 λd=>aS 5 d b c λ_ i=>a! f i
def aeP:Rg:=aB ad7 (aB (tT 130 a! (Out.ex 1)) (aB (bD 2 (aB ad6 (aB (aB ad5 (tT 134 zz a!)) ad4))) ad3))
def ape:Rg:=aB Ky (aB Kw (aB (aB Kv (tT 27 (aB aCE b!) a!)) (aB Ku (aB Kt (aB Kr (aB (aB Kq (tT 44 (aB VI (aB VH (aB Rk Kt))) a!)) (aB (aB Rh (tT 64 (aB aCE b!) a!)) (aB Rf (aB Kt (aB (aB Q8 (tT 85 Q7 a!)) (aB Q5 (aB QZ (aB (bD 0 (aB (aB QY (tT 96 a! QX)) (tT 96 (aB aCE b!) (aB QW (tT 103 (aB aea b!) (aB QV (tT 109 (aB ad9 b!) a!))))))) (aB QU (aB QT (aB QS (aB (aB QO (tT 122 (aB ad9 b!) a!)) (aB (aB QN (bD 1 (dG aeP lf))) (aB QM (aB (aB QL (tT 163 ad2 a!)) (aB QK b!)))))))))))))))))))))
def TK:Fun:=c_ [0,1,3,4,5,6,7,8,9,10,11,12,13,14,16,17,19,20,27,44,64,85,96,103,109,122,127,128,129,130,134,163] f73.ntmps [.cell 4 145] ape
def atP:=fE2 TK rfl
def aEj:fu 73 TK:=prX aN [36] [(4,[0,0,2,6,15,31,63,63,127,511],fU [3,16,32,51,66,80,96,112,128,144]),(6,[0,1,3,7,15,0,0,96,255],fU [81,97,114,0,16,32,52,64,130]),(37,[0,1,3,7,0,16,48,112,0,256,1023],fU [0,16,32,51,67,80,96,115,128,147,162])] (aU aKq (aU ax5 (aU aEk (aU aGZ (aU aEm (aU aaq (aU aKo (aU azB (aU EW (aU aG3 (aU apt (aU as9 (aU aGS bC))))))))))))) func73
def aGE:FuncId->Option Fun:=pI [(93,KX),(95,BI),(136,aus),(58,auv),(60,auu),(61,Xq),(72,TN),(73,TK)]
def ab5:=r1 11 2 λa h=>aH .eql .none a (H [117,105,100]) h
def amg:Rg:=λf h=>f 1 λa=>aO a h λb c=>aC 3 b c λd i=>aF d i λj m=>KX [j,Y U 0] m λn o=>oUn .not n o λp q=>a! (ss 17 p f) q
def amf:Rg:=λf h=>bW [Y U 0,H [],(K false),(K false),(K false)] [(0,1,(Y U 2)),(1,1,(H [99,111,109,109,97,110,100]))] h λa b=>f 6 λc=>aS 5 c a b λ_ d=>a! f d
def ame:Rg:=λf h=>f 1 λa=>aO a h λb c=>aC 3 b c λd i=>aF d i λj m=>aX 3 j (Y U 0) m λn o=>aC 1 n o λp q=>aF p q λr s=>BI [r] s λt u=>a! (ss 2 t f) u
def amd:Rg:=λf h=>f 1 λa=>aO a h λb c=>aC 3 b c λd i=>aF d i λj m=>fM 3 j (some (Y U 1)) none none m λn o=>aO a o λp q=>aC 3 p q λr s=>aS 1 r n s λ_ t=>aO a t λu v=>aC 4 u v λw x=>aS 1 w (K true) x λ_ y=>a! f y
def ab4:Rg:=λf h=>f 0 λa=>aO a h λb c=>aC 4 b c λd i=>aF d i λj m=>f 2 λn=>afB .string true (.agg (.cons .gV (.cons (Y U 0) (.cons (K false) .nil)))) j n m λo p=>bK 0 o p λq r=>bK 1 o r λs t=>fA 122 [.gV,Y U 0,(K false)] t λu v=>aS 3 u q v λ_ w=>a! (ss 8 s (ss 7 u f)) w
def ab3:Rg:=λf h=>f 8 λa=>oUn .not a h λb c=>ifB b (a! (ss 59 (K true) f) c) (f 1 λd=>aO d c λi j=>aC 4 i j λm n=>aF m n λo p=>ifB o (f 7 λq=>aC 2 q p λr s=>aF r s λt u=>oUn .not t u λv w=>a! (ss 59 v f) w) (a! (ss 59 (K false) f) p))
def Io:Rg:=λf h=>f 7 λa=>aC 1 a h λb c=>aF b c λd i=>a! (ss 62 d f) i
def Il:=r1 63 62 λa h=>aH .eql .none a (Y U 1) h
def ahi:Rg:=λf h=>f 0 λa=>aO a h λb c=>aC 0 b c λd i=>aF d i λj m=>oUn .not j m λn o=>a! (ss 9 n f) o
def Ij:=r1 70 62 λa h=>aH .eql .none a (Y U 2) h
def ahh:Rg:=λf h=>f 0 λa=>aO a h λb c=>aC 0 b c λd i=>aF d i λj m=>a! (ss 9 j f) m
def Ii:=r1 76 62 λa h=>aH .eql .none a (Y U 3) h
def ahg:Rg:=λf h=>f 0 λa=>aO a h λb c=>aC 1 b c λd i=>aF d i λj m=>aH .neq (.ptr 3) j .dn m λn o=>a! (ss 9 n f) o
def Ih:=r1 84 9 λa h=>oUn .not a h
def asR:Rg:=λf h=>aus [] h λa b=>f 6 λc=>aS 5 c a b λ_ d=>a! f d
def Ig:Rg:=λf h=>f 7 λa=>aC 0 a h λb c=>aF b c λd i=>f 1 λj=>dD aGE d [j] i λm n=>f 6 λo=>aS 5 o m n λ_ p=>a! f p
def aGK:Rg:=aB RF (aB (aB ab5 (tT 11 (aB (aB amg (tT 17 (aB amf b!) a!)) (aB ame amd)) a!)) (aB ab4 (aB (aB ab3 (tT 59 (aB amf b!) a!)) (aB AO (aB (aB Io (bD 0 (aB Il (tT 63 ahi (aB Ij (tT 70 ahh (aB Ii (tT 76 ahg a!)))))))) (aB (aB Ih (tT 84 (aB asR b!) a!)) (aB Ig b!)))))))
def ahT:Fun:=c_ [0,1,2,6,7,8,9,11,17,59,62,63,70,76,84] f94.ntmps [.cell 6 145] aGK
def aHf:=fE3 ahT rfl
def aSw:fu 94 ahT:=prX aN [] [] (aU aG8 (aU ahH (aU aKo (aU aTr (aU aTq (aU aGY (aU aEn (aU aEj bC)))))))) func94
def ZB:Rg:=λf h=>f 0 λa=>jy [a] h λb c=>aH .add .none (H [42,32]) b c λd i=>aH .add .none d (H [32]) i λj m=>f 1 λn=>Xw [n,H [32]] m λo p=>aH .add .none j o p λq r=>aH .add .none q (H [13,10]) r λs t=>f 2 λu=>yP [u,s] t λv w=>a! f w
def ahl:Rg:=ZB
def KO:Fun:=c_ [0,1,2] f174.ntmps [] ahl
def apE:=fE3 KO rfl
def axZ:fu 174 KO:=prX aN [] [] (aU Om (aU apx (aU apy bC))) func174
def wB:Rg:=λf h=>f 0 λa=>eX 248 a h λb c=>fA 250 [Y U 0,Y U 0,Y U 0,H [],Y U 0,.aP,.aP,Y U 0,Y U 0] c λd i=>a! (ss 4 (K false) (ss 3 d (ss 2 b f))) i
def wz:Rg:=λf h=>f 1 λa=>aF a h λb c=>f 2 λd=>eP (.func 178) [] [d] c λi j=>kT [b,i] j λm n=>a! (ss 5 m f) n
def wu:=r1 10 5 λa h=>aH .lss .none a (Y U 0) h
def Nc:Rg:=λf h=>bW [Y U 0,Y U 0,Y U 0,H [],Y U 0,.aP,.aP,Y U 0,Y U 0] [] h λa b=>f 3 λc=>aS 9 c a b λ_ d=>a! (ss 4 (K false) f) d
def MZ:Rg:=λf h=>f 1 λa=>aF a h λb c=>f 5 λd=>aX 9 b d c λi j=>bH 9 i j λm n=>f 3 λo=>aS 9 o m n λ_ p=>a! (ss 4 (K true) f) p
def Bh:Rg:=aB wB (aB wz (aB (aB wu (tT 10 (aB Nc b!) a!)) (aB MZ b!)))
def Bz:Fun:=c_ [0,1,2,3,4,5,10] f176.ntmps [.cell 3 250,.tmp 4] Bh
def Xk:=fE2 Bz rfl
def axY:fu 176 Bz:=prX aN [] [] (aU aeW bC) func176
def aal:FuncId->Option Fun:=pI [(175,ve),(44,xg),(56,kE),(126,jy),(180,II),(99,KW),(174,KO),(176,Bz)]
def amc:=rC 6 (H [])
def amb:=r1 23 0 λa h=>aH .eql (.ptr 3) a .dn h
def axy:Rg:=λf h=>fA 141 [.dn,.aP] h λa b=>a! (ss 7 a f) b
def axx:Rg:=λf h=>f 7 λa=>eP (.func 174) [] [a] h λb c=>a! (ss 8 b f) c
def axw:Rg:=λf h=>f 1 λa=>f 0 λb=>aO b h λc d=>aC 0 c d λi j=>aF i j λm n=>ve [a,m] n λo p=>fA 242 [.aP] p λq r=>aS 1 q o r λ_ s=>a! (ss 9 q f) s
def axv:Rg:=λf h=>f 9 λa=>eP (.func 176) [] [a] h λb c=>a! (ss 10 b f) c
def axu:=rC 11 (Y U 0)
def abU:Rg:=λf h=>f 2 λa=>ifB a (f 11 λb=>f 0 λc=>aO c h λd i=>aC 1 d i λj m=>aF j m λn o=>aZ 2 n o λp q=>aH .lss .none b p q λr s=>a! (ss 41 r f) s) (a! (ss 41 (K false) f) h)
def axt(fr:F)(h:Hp):Out:=
 fr 10 λa=>fr 0 λb=>aO b h λc d=>
 aC 1 c d λi j=>
 aF i j λm n=>
 fr 11 λo=>aX 3 m o n λp q=>
 bH 3 p q λr s=>
 dD aal a [r] s λt u=>
 bK 0 t u λv w=>
 bK 1 t w λx y=>
 fA 250 [Y U 0,Y U 0,Y U 0,H [],Y U 0,.aP,.aP,Y U 0,Y U 0] y λz e=>
 aS 9 z v e λ_ f=>
 a! (ss 13 x fr) f
def asP:=rM 54 13
def asN:Rg:=λf h=>f 0 λa=>aO a h λb c=>aC 1 b c λd i=>aF d i λj m=>aZ 2 j m λn o=>a! (ss 78 (Y U 0) (ss 77 n (ss 76 j f))) o
def asM:=r2 79 78 77 λa b h=>aH .lss .none a b h
def ahf:Rg:=λf h=>f 78 λa=>f 76 λb=>aX 3 b a h λc d=>bH 3 c d λi j=>fA 248 [Y U 0,Y U 0,.dn] j λm n=>aS 3 m i n λ_ o=>a! (ss 14 a (ss 15 m f)) o
def ahe:Rg:=λf h=>f 10 λa=>f 15 λb=>bH 3 b h λc d=>dD aal a [c] d λi j=>bK 0 i j λm n=>bK 1 i n λo p=>fA 250 [Y U 0,Y U 0,Y U 0,H [],Y U 0,.aP,.aP,Y U 0,Y U 0] p λq r=>aS 9 q m r λ_ s=>a! (ss 17 o (ss 16 q f)) s
def ahd:Rg:=λf h=>f 17 λa=>ifB a (f 15 λb=>aC 2 b (aK 0 h) λc _=>aF c (aK 0 h) λd _=>xg [d] (aK 0 h) λi j=>f 16 λm=>aC 1 m j λn _=>aC 6 n j λo _=>aF o j λp _=>chk (λh=>aF o h) p ( aH .gtr .none p i j λq _=>a! (ss 98 q f) j) 1 [(aK 0 h)]) (a! (ss 98 (K false) f) (aK 0 h))
def asL:Rg:=λf h=>f 15 λa=>aC 2 a h λb c=>aF b c λd i=>f 16 λj=>aC 1 j i λm n=>aC 6 m n λo p=>aF o p λq r=>kE [d,q] r λs t=>a! f t
def asK(fr:F)(h:Hp):Out:=
 fr 15 λa=>aC 0 a (aK 1 h) λb _=>
 aF b (aK 1 h) λc _=>
 jy [c] (aK 1 h) λd i=>
 fr 16 λj=>aC 1 j i λm _=>
 aC 4 m i λn _=>
 aF n i λo _=>chk (λh=>aF n h) o (
 II [o] i λp q=>
 fr 16 λr=>aC 1 r q λs _=>
 aC 6 s q λt _=>
 aF t q λu _=>chk (λh=>aF t h) u (
 jy [u] q λv w=>
 fr 8 λx=>fr 14 λy=>aH .add .none y (Y U 1) w λz _=>
 aH .add .none (H [77,79,68,83,69,81,32,40]) v w λg _=>
 aH .add .none g (H [41,41]) w λk _=>
 Aw (eH 9 [H [],H [],H [],H [],H []] 5 [(0,1,(H [70,69,84,67,72,32,40,85,73,68])),(1,1,d),(2,1,(H [70,76,65,71,83])),(3,1,p),(4,1,k)]) λf e=>
 dD aal x [z,(e (Hp.next h))] (Hp.put w (Hp.next h) (some f)) λB l=>
 a! fr l) 2 [i,(aK 1 h)]) 1 [(aK 1 h)]
def asJ:=r1 78 78 λa h=>aH .add .none a (Y U 1) h
def asI:Rg:=λf h=>f 0 λa=>aO a (aK 0 h) λb _=>aC 2 b (aK 0 h) λc _=>aF c (aK 0 h) λd _=>f 0 λi=>aO i (aK 0 h) λj _=>aC 1 j (aK 0 h) λm _=>aF m (aK 0 h) λn _=>aZ 2 n (aK 0 h) λo _=>a! (ss 19 o (ss 18 d f)) (aK 0 h)
def asH:Rg:=λf h=>f 9 λa=>aF a h λb c=>aZ 2 b c λd i=>a! (ss 135 (Y U 0) (ss 134 d (ss 133 b f))) i
def asG:=r2 136 135 134 λa b h=>aH .lss .none a b h
def asF:Rg:=λf h=>f 133 λa=>f 135 λb=>aX 9 a b h λc d=>bH 9 c d λi j=>fA 250 [Y U 0,Y U 0,Y U 0,H [],Y U 0,.aP,.aP,Y U 0,Y U 0] j λm n=>aS 9 m i n λ_ o=>a! (ss 21 m f) o
def asE:Rg:=λf h=>f 21 λa=>aC 0 a h λb c=>aF b c λd i=>f 18 λj=>aH .gtr .none d j i λm n=>a! (ss 142 m f) n
def asD:=r1 135 135 λa h=>aH .add .none a (Y U 1) h
def ahc:Rg:=λf h=>f 0 λa=>aO a h λb c=>aC 1 b c λd i=>aF d i λj m=>aZ 2 j m λn o=>f 19 λp=>aH .gtr .none n p o λq r=>a! (ss 153 q f) r
def ahb:=r1 6 7 λa h=>KW [a] h
def acp:Rg:=aB (aB abU (tT 41 a! (Out.ex 0))) (bD 1 (aB (aB axt (aB asP (tT 54 (aB abV (Out.ex 1)) a!))) zz))
def aHa:Rg:=aB asM (aB (tT 79 a! (Out.ex 2)) (aB (bD 3 (aB ahf (aB ahe (aB ahd (tT 98 (aB asL asK) a!))))) asJ))
def aG9:Rg:=aB asG (aB (tT 136 a! (Out.ex 4)) (aB (bD 5 (aB asF (aB asE (tT 142 zz a!)))) asD))
def apn:Rg:=aB amc (aB (aB amb (tT 23 (aB amc b!) a!)) (aB axy (aB axx (aB axw (aB axv (aB (aB axu (bD 0 (dG acp lf))) (aB (aB asN (bD 2 (dG aHa lf))) (aB asI (aB (aB asH (bD 4 (dG aG9 lf))) (aB (aB ahc (tT 153 zz a!)) (aB ahb b!)))))))))))
def aaw:Fun:=c_ [0,1,2,6,7,8,9,10,11,13,14,15,16,17,18,19,21,23,41,54,76,77,78,79,98,133,134,135,136,142,153] f97.ntmps [.tmp 6] apn
def atm:=fE3 aaw rfl
def aSv:fu 97 aaw:=prX aN [12,13,27,30] [(18,[0,1,3,7,15,3,35,99,255,511],fU [0,16,80,99,114,32,48,68,128,144]),(20,[0,0,2,0,8,24,0,64,192,504,0,1024,3072,8184,16376,32760,65528,131071],fU [48,67,82,96,112,132,146,160,176,197,210,0,16,32,224,240,257,274]),(22,[0,1,3,7,0,16,48,112,240,15,1023],fU [0,16,32,51,64,80,96,115,128,144,160])] (aU YG (aU Xj (aU BX (aU Om (aU atf (aU ax8 (aU axZ (aU axY bC)))))))) func97
def Uh:Rg:=λf h=>f 3 λa=>eX 94 a h λb c=>a! (ss 9 (K false) (ss 8 (H []) (ss 7 b f))) c
def Ug:Rg:=λf h=>f 0 λa=>aH .eql (.ptr 5) a .dn h λb c=>ifB b (a! (ss 13 (K true) f) c) (f 1 λd=>aH .eql (.ptr 16) d .dn c λi j=>a! (ss 13 i f) j)
def ara:Rg:=λf h=>a! (ss 9 (K false) (ss 8 (H []) f)) h
def Uf:Rg:=λf h=>f 7 λa=>aC 0 a h λb c=>aF b c λd i=>aH .eql .none d (Y U 2) i λj m=>a! (ss 20 j f) m
def aq9:Rg:=λf h=>a! (ss 9 (K true) (ss 8 (H [43,32,103,111,32,111,110,13,10]) f)) h
def Ue(fr:F)(h:Hp):Out:=
 fr 7 λa=>aC 0 a h λb c=>
 aF b c λd i=>
 aH .neq .none d (Y U 1) i λj m=>
 ifB j (a! (ss 24 (K true) fr) m) (aC 1 a m λn o=>
 aF n o λp q=>
 KX [p,Y U 0] q λr s=>
 oUn .not r s λt u=>
 ifB t (a! (ss 24 (K true) fr) u) (aC 1 a u λv w=>
 aF v w λx y=>
 KX [x,Y U 1] y λz e=>
 oUn .not z e λf g=>
 a! (ss 24 f fr) g))
def aq8:Rg:=λf h=>a! (ss 9 (K true) (ss 8 (H [42,32,66,65,68,32,108,105,110,101,13,10]) f)) h
def Ud:Rg:=λf h=>f 0 λa=>aO a h λb c=>aC 3 b c λd i=>aax [d,Y U 1] i λj m=>a! f m
def Ub:Rg:=λf h=>f 0 λa=>f 1 λb=>f 2 λc=>f 7 λd=>aC 1 d h λi j=>aF i j λm n=>fM 3 m (some (Y U 2)) none none n λo p=>bW [.dn,.dn,Y U 0,.aP,(K false),.dn,.aP] [(0,1,a),(1,1,b),(2,1,c),(3,1,o)] p λq r=>eX 143 q r λs t=>a! (ss 10 s f) t
def TY:Rg:=λf h=>f 0 λa=>f 10 λb=>f 7 λc=>aC 1 c h λd i=>aF d i λj m=>aX 3 j (Y U 1) m λn o=>aC 1 n o λp q=>aF p q λr s=>BI [r] s λt u=>ahT [a,b,t] u λv w=>fA 145 [Y U 0,H [],(K false),(K false),(K false)] w λx y=>aS 5 x v y λ_ z=>a! (ss 11 x f) z
def Nv:Rg:=λf h=>f 7 λa=>aC 1 a h λb c=>aF b c λd i=>aX 3 d (Y U 0) i λj m=>aC 1 j m λn o=>aF n o λp q=>a! (ss 12 p f) q
def Nu:Rg:=λf h=>f 11 λa=>aC 0 a h λb c=>aF b c λd i=>aH .eql .none d (Y U 1) i λj m=>a! (ss 66 j f) m
def abT:Rg:=λf h=>f 12 λa=>aH .add .none a (H [32,78,79,32]) h λb c=>f 11 λd=>aC 1 d c λi j=>aF i j λm n=>aH .add .none b m n λo p=>aH .add .none o (H [13,10]) p λq r=>a! (ss 9 (K true) (ss 8 q f)) r
def VS:Rg:=λf h=>f 11 λa=>aC 0 a h λb c=>aF b c λd i=>aH .eql .none d (Y U 2) i λj m=>a! (ss 76 j f) m
def al4:Rg:=λf h=>f 12 λa=>aH .add .none a (H [32,66,65,68,32]) h λb c=>f 11 λd=>aC 1 d c λi j=>aF i j λm n=>aH .add .none b m n λo p=>aH .add .none o (H [13,10]) p λq r=>a! (ss 9 (K true) (ss 8 q f)) r
def VR:Rg:=λf h=>f 11 λa=>aC 3 a h λb c=>aF b c λd i=>oUn .not d i λj m=>a! (ss 88 j f) m
def abS:Rg:=λf h=>f 0 λa=>aO a (aK 0 h) λb _=>aC 1 b (aK 0 h) λc _=>aF c (aK 0 h) λd _=>f 1 λi=>f 11 λj=>aC 4 j (aK 0 h) λm _=>aF m (aK 0 h) λn _=>oUn .not n (aK 0 h) λo _=>aaw [d,i,o] (aK 0 h) λp q=>f 10 λr=>aO r q λs _=>aC 5 s q λt _=>yP [t,p] q λu v=>a! f v
def abR:Rg:=λf h=>f 11 λa=>aC 1 a h λb c=>aF b c λd i=>aH .neq .none d (H []) i λj m=>a! (ss 104 j f) m
def al3:Rg:=λf h=>f 10 λa=>f 12 λb=>f 11 λc=>aC 1 c h λd i=>aF d i λj m=>aH .add .none (H [91]) j m λn o=>aH .add .none n (H [93]) o λp q=>bU 9 [H [],H [],H [],H []] 4 [(0,1,b),(1,1,(H [79,75])),(2,1,p),(3,1,(H [100,111,110,101]))] q λr s=>uM [a,r] s λt u=>a! f u
def al2:Rg:=λf h=>f 10 λa=>f 12 λb=>bU 9 [H [],H []] 2 [(0,1,b),(1,1,(H [79,75,32,100,111,110,101]))] h λc d=>uM [a,c] d λi j=>a! f j
def abQ:Rg:=λf h=>f 10 λa=>aO a (aK 0 h) λb _=>aC 5 b (aK 0 h) λc _=>KW [c] (aK 0 h) λd i=>f 11 λj=>aC 2 j i λm _=>aF m i λn _=>chk (λh=>aF m h) n ( oUn .not n i λo _=>a! (ss 9 o (ss 8 d f)) i) 1 [(aK 0 h)]
def aKm:Rg:=aB Uh (aB (bD 0 (aB Ug (tT 13 (aB ara b!) (aB Uf (tT 20 (aB aq9 b!) (aB Ue (tT 24 (aB aq8 b!) a!))))))) (aB Ud (aB Ub (aB TY (aB Nv (aB (bD 1 (aB Nu (tT 66 (aB abT b!) (aB VS (tT 76 (aB al4 b!) a!))))) (aB (aB VR (tT 88 abS a!)) (aB (aB abR (tT 104 al3 al2)) (aB abQ b!)))))))))
def aiB:Fun:=c_ [0,1,2,3,7,8,9,10,11,12,13,20,24,66,76,88,104] f42.ntmps [.tmp 8,.tmp 9] aKm
def aJV:=fE4 aiB rfl
def aTp:fu 42 aiB:=prX aN [] [(16,[0,1,3,0,8,24,56,0,0,256,768,2040,4095],fU [48,64,80,99,112,128,147,160,178,0,16,32,194]),(20,[0,1,3,7,0,16,48,15,255],fU [0,16,32,50,64,84,96,112,128])] (aU aG8 (aU aG7 (aU ahH (aU aSw (aU aSv (aU apy (aU aur (aU ax8 bC)))))))) func42
abbrev lQ:Fun:=Ik.aB3
def azt:fu 14 lQ:=Ik.aOn
abbrev V5:Fun:=Ik.aw5
def ax2:fu 104 V5:=Ik.aJo
def akQ:FuncId->Option Fun:=pI [(104,V5)]
def adu:=rC 5 (.func (.func 104) .nil .nil)
def adt:Rg:=λf h=>f 5 λa=>f 1 λb=>dD akQ a [b,H [105,110,45,114,101,112,108,121,45,116,111]] h λc d=>a! (ss 6 c f) d
def ads:=r1 13 6 λa h=>aH .eql .none a (H []) h
def akV:Rg:=aB axJ (aB adu (aB adt (aB (aB ads (tT 13 (aB axJ b!) a!)) zz)))
def Oq:Fun:=c_ [0,1,4,5,6,8,13,17,18,19,20,28] f48.ntmps [.tmp 4] akV
def aru:=fE2 Oq rfl
def azp:fu 48 Oq:=prX aN [5,6,7,8,9,10,11] [] (aU ax2 bC) func48
def adJ:=r1 22 0 λa h=>aH .eql (.ptr 16) a .dn h
def adI:Rg:=λf h=>f 1 λa=>aZ 2 a h λb c=>aH .eql .none b (Y U 0) c λd i=>ifB d (a! (ss 33 (K true) f) i) (f 3 λj=>aH .lss .none j (Y U 0) i λm n=>ifB m (a! (ss 33 (K true) f) n) (aH .gtr .none j (Y U 253402300799) n λo p=>a! (ss 33 o f) p))
def adH:Rg:=λf h=>f 2 λa=>IJ [a] h λb c=>bK 0 b c λd i=>bK 1 b i λj m=>a! (ss 13 j (ss 12 d f)) m
def adG:=r1 40 13 λa h=>aH .neq .none a (Y U 0) h
def adF:Rg:=λf h=>f 0 λa=>f 1 λb=>Oo [a,b] h λc d=>bK 0 c d λi j=>bK 1 c j λm n=>a! (ss 15 m (ss 14 i f)) n
def adE:=r1 48 15 λa h=>oUn .not a h
def Z7:Rg:=λf h=>f 0 λa=>aO a (aK 0 h) λb _=>aC 11 b (aK 0 h) λc _=>aF c (aK 0 h) λd _=>aZ 2 d (aK 0 h) λi _=>f 0 λj=>aO j (aK 0 h) λm _=>aC 0 m (aK 0 h) λn _=>aC 2 n (aK 0 h) λo _=>aF o (aK 0 h) λp _=>aH .geq .none i p (aK 0 h) λq _=>a! (ss 51 q f) (aK 0 h)
def Z5:Rg:=λf h=>f 4 λa=>aZ 1 a (aK 0 h) λb _=>f 0 λc=>aO c (aK 0 h) λd _=>aC 0 d (aK 0 h) λi _=>aC 4 i (aK 0 h) λj _=>aF j (aK 0 h) λm _=>f 0 λn=>aO n (aK 0 h) λo _=>aC 15 o (aK 0 h) λp _=>aF p (aK 0 h) λq _=>aH .sub .none m q (aK 0 h) λr _=>aH .gtr .none b r (aK 0 h) λs _=>a! (ss 51 s f) (aK 0 h)
def Z4:=r1 76 0 λa h=>PX [a] h
def ZY:Rg:=λf h=>f 14 λa=>f 0 λb=>eP (.func 47) [b] [] h λc d=>jk [a,c] d λi j=>a! (ss 76 i f) j
def ZX:=r1 16 0 λa h=>PW [a] h
def ZW:Rg:=λf h=>f 0 λa=>aO a h λb c=>aC 14 b c λd i=>aF d i λj m=>aH .add .none j (Y U 1) m λn o=>aO a o λp q=>aC 14 p q λr s=>aS 1 r n s λ_ t=>a! f t
def ZV(fr:F)(h:Hp):Out:=
 fr 0 λa=>fr 4 λb=>Oq [a,b] (aK 1 h) λc d=>
 fr 0 λi=>aO i d λj _=>
 aC 14 j d λm _=>
 aF m d λn _=>chk (λh=>aF m h) n (
 fr 4 λo=>fr 3 λp=>fr 12 λq=>fr 16 λr=>fr 16 λs=>bW [Y U 0,Y U 0,H [],Y U 0,.aP,.aP,Y U 0,Y U 0] [(0,1,n),(1,1,c),(2,1,o),(3,1,p),(4,1,q),(6,1,r),(7,1,s)] d λt _=>
 Aw (QG 40 [Y U 0,Y U 0,H [],Y U 0,.aP,.aP,Y U 0,Y U 0]) λf e=>
 aS 8 (e (Hp.next h)) t (Hp.put d (Hp.next h) (some f)) λ_ u=>
 a! (ss 17 (e (Hp.next h)) fr) u) 1 [(aK 1 h)]
def ZU:=rC 18 (Y U 2)
def ZT:Rg:=λf h=>f 17 λa=>aC 1 a h λb c=>aF b c λd i=>aH .eql .none d (Y U 0) i λj m=>a! (ss 107 j f) m
def ZR:Rg:=λf h=>f 17 λa=>aC 0 a h λb c=>aF b c λd i=>aC 1 a i λj m=>aS 1 j d m λ_ n=>a! (ss 18 (Y U 1) f) n
def ZQ:Rg:=λf h=>f 14 λa=>aZ 2 a h λb c=>a! (ss 113 (Y U 0) (ss 112 b (ss 111 a f))) c
def ZP:=r2 114 113 112 λa b h=>aH .lss .none a b h
def ZO:Rg:=λf h=>f 111 λa=>f 113 λb=>aX 1 a b h λc d=>aF c d λi j=>a! (ss 20 i f) j
def ZN(fr:F)(h:Hp):Out:=
 fr 0 λa=>fr 20 λb=>Ot [a,b] (aK 1 h) λc d=>
 fr 17 λi=>aC 5 i d λj _=>
 aF j d λm _=>chk (λh=>aF j h) m (
 Aw (eH 106 [Y U 0,Y U 0] 1 [(0,2,c)]) λf e=>
 bZ 106 2 16 m (e (Hp.next h)) (Hp.put d (Hp.next h) (some f)) λn o=>
 fr 17 λp=>aC 5 p o λq _=>
 aS 1 q n o λ_ r=>
 a! fr r) 1 [(aK 1 h)]
def ZM:=r1 113 113 λa h=>aH .add .none a (Y U 1) h
def ZL(fr:F)(h:Hp):Out:=
 fr 0 λa=>aO a (aK 1 h) λb _=>
 aC 11 b (aK 1 h) λc _=>
 aF c (aK 1 h) λd _=>
 fr 17 λi=>bH 8 i (aK 1 h) λj _=>
 Aw (eH 40 [Y U 0,Y U 0,H [],Y U 0,.aP,.aP,Y U 0,Y U 0] 1 [(0,8,j)]) λf e=>
 bZ 40 8 104 d (e (Hp.next h)) (Hp.put (aK 1 h) (Hp.next h) (some f)) λm n=>
 fr 0 λo=>aO o n λp _=>
 aC 11 p n λq _=>
 aS 1 q m n λ_ r=>
 a! fr r
def ZK:Rg:=λf h=>f 0 λa=>aO a h λb c=>aC 15 b c λd i=>aF d i λj m=>f 4 λn=>aZ 1 n m λo p=>aH .add .none j o p λq r=>aO a r λs t=>aC 15 s t λu v=>aS 1 u q v λ_ w=>a! f w
def ZJ(fr:F)(h:Hp):Out:=
 fr 0 λa=>fr 16 λb=>fr 14 λc=>EZ [a,b,c] (aK 1 h) λd i=>
 fr 16 λj=>fr 17 λm=>aC 0 m i λn _=>
 aF n i λo _=>chk (λh=>aF n h) o (
 bW [Y U 0,Y U 0,Y U 0,Y U 0] [(0,1,j),(1,1,(Y U 2)),(2,1,o),(3,1,(Y U 1))] i λp _=>
 fr 16 λq=>fr 17 λr=>aC 1 r i λs _=>
 aF s i λt _=>chk (λh=>aF s h) t (
 fr 18 λu=>bW [Y U 0,Y U 0,Y U 0,Y U 0] [(0,1,q),(1,1,(Y U 3)),(2,1,t),(3,1,u)] i λv _=>
 Aw (eH 85 [Y U 0,Y U 0,Y U 0,Y U 0,Y U 0,Y U 0,Y U 0,Y U 0] 2 [(0,4,p),(4,4,v)]) λf e=>
 bZ 85 4 32 d (e (Hp.next h)) (Hp.put i (Hp.next h) (some f)) λw x=>
 fr 0 λy=>aO y x λz _=>
 aC 12 z x λg _=>
 aF g x λk _=>chk (λh=>aF g h) k (
 NH [k,w] x λB l=>
 a! fr l) 2 [i,(aK 1 h)]) 1 [(aK 1 h)]) 1 [(aK 1 h)]
def ZI:Rg:=λf h=>f 17 λa=>aC 0 a h λb c=>aF b c λd i=>a! (ss 11 (Y U 0) (ss 10 d f)) i
def arn:Rg:=aB ZP (aB (tT 114 a! (Out.ex 1)) (aB (bD 2 (aB ZO ZN)) ZM))
def YC:Rg:=aB zB (aB (aB adJ (tT 22 zz a!)) (aB (aB adI (tT 33 zz a!)) (aB adH (aB (aB adG (tT 40 zz a!)) (aB adF (aB (bD 0 (aB adE (tT 48 zz (aB (aB Z7 (tT 51 a! Z5)) (tT 51 zz (aB (aB Z4 (tT 76 a! ZY)) (tT 76 zz a!))))))) (aB ZX (aB ZW (aB ZV (aB ZU (aB (aB ZT (tT 107 ZR a!)) (aB (aB ZQ (bD 1 (dG arn lf))) (aB ZL (aB ZK (aB ZJ (aB ZI b!))))))))))))))))
def Ov:Fun:=c_ [0,1,2,3,4,10,11,12,13,14,15,16,17,18,20,22,33,40,48,51,76,107,111,112,113,114] f20.ntmps [.tmp 10,.tmp 11] YC
def arx:=fE5 Ov rfl
def azs:fu 20 Ov:=prX aN [2,4,7,10,13,16] [(11,[0,1,3,7,15,0,32,96,224,480,1023,2047],fU [0,16,32,51,64,80,96,112,128,147,160,176]),(12,[0,1,0,4,12,28,60,0,128,384,896,2044,4095,8191],fU [0,16,32,48,64,80,99,112,128,144,163,176,192,208]),(19,[0,1,3,7,0,0,48,0,0,0,0,0,4095,0,16383],fU [64,80,98,0,16,32,52,112,128,144,160,176,192,209,226]),(26,[0,1,0,0,12,28,63,127,255],fU [32,48,66,0,20,81,98,112,130]),(28,[0,0,2,6,14,0,32,126,255,511,1023],fU [16,32,48,67,83,97,114,0,128,144,162]),(30,[0,1,3,7,0,0,0,112,0,0,512,1792,0,0,8192,0,61440,130816,262128,524287],fU [64,80,96,114,128,144,164,176,192,208,228,240,256,273,290,0,16,32,53,306])] (aU atg (aU azo (aU atc (aU KH (aU atb (aU azp (aU azq (aU ak4 (aU ax4 bC))))))))) func20
def aoV:Rg:=λf h=>a! (ss 3 (Y U 0) (ss 2 .dn f)) h
def aoU:=r1 5 0 λa h=>aH .lss .none a (Y U 1) h
def aoT:Rg:=λf h=>f 0 λa=>bW [Y U 0,.aP,Y U 0] [(0,1,a)] h λb c=>eX 130 b c λd i=>a! (ss 3 (Y U 0) (ss 2 d f)) i
def axR:Rg:=aB aoV (aB (aB aoU (tT 5 zz a!)) (aB aoT b!))
def acC:Fun:=c_ [0,2,3,5] f55.ntmps [.tmp 2,.tmp 3] axR
def azR:=fE1 acC rfl
def aJL:fu 55 acC:=prX aN [2] [] bC func55
def aoG:Rg:=λf h=>f 0 λa=>eX 62 a h λb c=>a! (ss 3 (Y U 0) (ss 2 .dn (ss 1 b f))) c
def aoF:Rg:=λf h=>f 1 λa=>aC 0 a h λb c=>aF b c λd i=>wZ [d] i λj m=>oUn .not j m λn o=>ifB n (a! (ss 18 (K true) f) o) (aC 1 a o λp q=>aF p q λr s=>wZ [r] s λt u=>oUn .not t u λv w=>a! (ss 18 v f) w)
def aoE(fr:F)(h:Hp):Out:=
 fr 1 λa=>aC 2 a h λb c=>
 aF b c λd i=>
 aC 3 a i λj m=>
 aF j m λn o=>
 aC 4 a o λp q=>
 aF p q λr s=>
 aC 5 a s λt u=>
 aF t u λv w=>
 aC 6 a w λx y=>
 aF x y λz f=>
 aC 7 a f λg k=>
 aF g k λl B=>
 aC 8 a B λC E=>
 aF C E λG I=>
 bU 3 [Y U 0,Y U 0,Y U 0,Y U 0,Y U 0,Y U 0,Y U 0] 7 [(0,1,d),(1,1,n),(2,1,r),(3,1,v),(4,1,z),(5,1,l),(6,1,G)] I λe J=>
 aZ 2 e J λL M=>
 a! (ss 35 (Y U 0) (ss 34 L (ss 33 e fr))) M
def aoD:=r2 36 35 34 λa b h=>aH .lss .none a b h
def aoC:Rg:=λf h=>f 33 λa=>f 35 λb=>aX 1 a b h λc d=>aF c d λi j=>a! (ss 5 i f) j
def aoB:Rg:=λf h=>f 5 λa=>aH .lss .none a (Y U 1) h λb c=>ifB b (a! (ss 44 (K true) f) c) (aH .gtr .none a (Y U 2147483647) c λd i=>a! (ss 44 d f) i)
def aoA:=r1 35 35 λa h=>aH .add .none a (Y U 1) h
def aoz:Rg:=λf h=>f 1 λa=>aC 7 a h λb c=>aF b c λd i=>acC [d] i λj m=>bK 0 j m λn o=>bK 1 j o λp q=>a! (ss 6 n f) q
def ajJ:Rg:=λf h=>f 1 λa=>bH 9 a h λb c=>bW [Y U 0,H [],Y U 0,Y U 0,Y U 0,Y U 0] [(0,1,(Y U 1)),(1,1,(H [73,78,66,79,88])),(3,1,(Y U 1)),(4,1,(Y U 1)),(5,1,(Y U 1))] c λd i=>bU 55 [Y U 0,H [],Y U 0,Y U 0,Y U 0,Y U 0] 1 [(0,6,d)] i λj m=>f 6 λn=>bW [H [],H [],Y U 0,Y U 0,Y U 0,Y U 0,Y U 0,Y U 0,Y U 0,Y U 0,.aP,.aP,.dn,Y U 0,Y U 0,Y U 0] [(0,9,b),(10,1,j),(12,1,n),(13,1,(Y U 1))] m λo p=>eX 78 o p λq r=>a! (ss 8 q f) r
def ajI:Rg:=λf h=>f 8 λa=>aO a h λb c=>aC 9 b c λd i=>kE [d,Y U 1] i λj m=>a! f m
def ajH:Rg:=λf h=>f 8 λa=>a! (ss 3 (Y U 0) (ss 2 a f)) h
def aEq:Rg:=aB aoD (aB (tT 36 a! (Out.ex 0)) (aB (bD 1 (aB aoC (aB aoB (tT 44 zz a!)))) aoA))
def amk:Rg:=aB aoG (aB (aB aoF (tT 18 zz a!)) (aB (aB aoE (bD 0 (dG aEq lf))) (aB aoz (aB ajJ (aB ajI (aB ajH b!))))))
def acw:Fun:=c_ [0,1,2,3,5,6,8,18,33,34,35,36,44] f26.ntmps [.tmp 2,.tmp 3] amk
def azL:=fE1 acw rfl
def aJH:fu 26 acw:=prX aN [2,7] [] (aU ata (aU aJL (aU BX bC))) func26
def aj1:Rg:=λf h=>fA 62 [H [],H [],Y U 0,Y U 0,Y U 0,Y U 0,Y U 0,Y U 0,Y U 0] h λa b=>a! (ss 0 a f) b
def aj0:Rg:=λf h=>bW [H [],H [],Y U 0,Y U 0,Y U 0,Y U 0,Y U 0,Y U 0,Y U 0] [(0,1,(H [117])),(1,1,(H [112])),(2,1,(Y U 1000)),(3,1,(Y U 100)),(4,1,(Y U 1048576)),(5,1,(Y U 1073741824)),(6,1,(Y U 1073741824)),(7,1,(Y U 10000)),(8,1,(Y U 200))] h λa b=>f 0 λc=>aS 9 c a b λ_ d=>a! f d
def ahs:Rg:=aB aj1 (aB aj0 b!)
def Xp:Fun:=c_ [0] f27.ntmps [.cell 0 62] ahs
def ayn(h:Hp):Xp [] h=bV prog [.cell 0 62] (ahs T.nil h):=kR
def aGX:fu 27 Xp:=prX aN [] [] bC func27
def axQ:Rg:=aB akP (aB Sm b!)
def acB:Fun:=c_ [0,2] f28.ntmps [.tmp 2] axQ
def azQ:=fE1 acB rfl
def aJJ:fu 28 acB:=prX aN [] [] bC func28
def aGD:=rC 0 .dn
def aGC:Rg:=λf h=>bW [(K false),.dn,(K false),Y U 0,.jT] [] h λa b=>eX 119 a b λc d=>a! (ss 1 c f) d
def aGB(fr:F)(h:Hp):Out:=
 fr 1 λa=>aaR h λb c=>
 eP (.func 57) [a] [] c λd i=>
 bW [.gV,Y U 0,(K false)] [(0,1,d),(1,1,(Y U 0)),(2,1,(K false))] i λj m=>
 gB .string b (H [99,97,112,97,98,105,108,105,116,121]) j m λ_ n=>
 eP (.func 58) [a] [] n λo p=>
 bW [.gV,Y U 0,(K false)] [(0,1,o),(1,1,(Y U 0)),(2,1,(K false))] p λq r=>
 gB .string b (H [110,111,111,112]) q r λ_ s=>
 eP (.func 59) [a] [] s λt u=>
 bW [.gV,Y U 0,(K false)] [(0,1,t),(1,1,(Y U 0)),(2,1,(K false))] u λv w=>
 gB .string b (H [108,111,103,111,117,116]) v w λ_ x=>
 eP (.func 60) [a] [] x λy z=>
 bW [.gV,Y U 0,(K false)] [(0,1,y),(1,1,(Y U 1)),(2,1,(K false))] z λe f=>
 gB .string b (H [108,111,103,105,110]) e f λ_ g=>
 eP (.func 61) [a] [] g λk l=>
 bW [.gV,Y U 0,(K false)] [(0,1,k),(1,1,(Y U 2)),(2,1,(K false))] l λB C=>
 gB .string b (H [115,101,108,101,99,116]) B C λ_ E=>
 eP (.func 62) [a] [] E λG I=>
 bW [.gV,Y U 0,(K false)] [(0,1,G),(1,1,(Y U 2)),(2,1,(K false))] I λJ L=>
 gB .string b (H [101,120,97,109,105,110,101]) J L λ_ M=>
 eP (.func 63) [a] [] M λP Q=>
 bW [.gV,Y U 0,(K false)] [(0,1,P),(1,1,(Y U 2)),(2,1,(K false))] Q λS W=>
 gB .string b (H [99,114,101,97,116,101]) S W λ_ Z=>
 eP (.func 64) [a] [] Z λau av=>
 bW [.gV,Y U 0,(K false)] [(0,1,au),(1,1,(Y U 2)),(2,1,(K false))] av λaw ax=>
 gB .string b (H [100,101,108,101,116,101]) aw ax λ_ ay=>
 eP (.func 65) [a] [] ay λaz ba=>
 bW [.gV,Y U 0,(K false)] [(0,1,az),(1,1,(Y U 2)),(2,1,(K false))] ba λbb bc=>
 gB .string b (H [114,101,110,97,109,101]) bb bc λ_ bd=>
 eP (.func 66) [a] [] bd λbe bf=>
 bW [.gV,Y U 0,(K false)] [(0,1,be),(1,1,(Y U 2)),(2,1,(K false))] bf λbg bh=>
 gB .string b (H [108,105,115,116]) bg bh λ_ bi=>
 eP (.func 67) [a] [] bi λbj bk=>
 bW [.gV,Y U 0,(K false)] [(0,1,bj),(1,1,(Y U 2)),(2,1,(K false))] bk λbl bm=>
 gB .string b (H [115,116,97,116,117,115]) bl bm λ_ bn=>
 eP (.func 68) [a] [] bn λbo bp=>
 bW [.gV,Y U 0,(K false)] [(0,1,bo),(1,1,(Y U 2)),(2,1,(K false))] bp λbq br=>
 gB .string b (H [97,112,112,101,110,100]) bq br λ_ bs=>
 eP (.func 58) [a] [] bs λbt bu=>
 bW [.gV,Y U 0,(K false)] [(0,1,bt),(1,1,(Y U 3)),(2,1,(K false))] bu λbv bw=>
 gB .string b (H [99,104,101,99,107]) bv bw λ_ bx=>
 eP (.func 69) [a] [] bx λbz ca=>
 bW [.gV,Y U 0,(K false)] [(0,1,bz),(1,1,(Y U 3)),(2,1,(K false))] ca λcb cc=>
 gB .string b (H [99,108,111,115,101]) cb cc λ_ cd=>
 eP (.func 70) [a] [] cd λce cf=>
 bW [.gV,Y U 0,(K false)] [(0,1,ce),(1,1,(Y U 3)),(2,1,(K true))] cf λcg ch=>
 gB .string b (H [101,120,112,117,110,103,101]) cg ch λ_ ci=>
 eP (.func 71) [a] [] ci λcj ck=>
 bW [.gV,Y U 0,(K false)] [(0,1,cj),(1,1,(Y U 3)),(2,1,(K true))] ck λcl cm=>
 gB .string b (H [115,101,97,114,99,104]) cl cm λ_ cn=>
 eP (.func 72) [a] [] cn λco cp=>
 bW [.gV,Y U 0,(K false)] [(0,1,co),(1,1,(Y U 3)),(2,1,(K true))] cp λcq cr=>
 gB .string b (H [102,101,116,99,104]) cq cr λ_ cs=>
 eP (.func 73) [a] [] cs λct cu=>
 bW [.gV,Y U 0,(K false)] [(0,1,ct),(1,1,(Y U 3)),(2,1,(K true))] cu λcv cw=>
 gB .string b (H [115,116,111,114,101]) cv cw λ_ cx=>
 eP (.func 74) [a] [] cx λcy cz=>
 bW [.gV,Y U 0,(K false)] [(0,1,cy),(1,1,(Y U 3)),(2,1,(K true))] cz λda db=>
 gB .string b (H [99,111,112,121]) da db λ_ dc=>
 eP (.func 75) [a] [] dc λdd de=>
 bW [.gV,Y U 0,(K false)] [(0,1,dd),(1,1,(Y U 3)),(2,1,(K true))] de λdf dg=>
 gB .string b (H [109,111,118,101]) df dg λ_ dh=>
 aO a dh λdi dj=>
 aC 4 di dj λdk dl=>
 aS 1 dk b dl λ_ dm=>
 a! fr dm
def aGA:=rM 0 1
def aJA:Rg:=aB aGD (aB aGC (aB aGB (aB aGA b!)))
def aEt:Fun:=c_ [0,1] f29.ntmps [.tmp 0] aJA
def aOC(h:Hp):aEt [] h=bV prog [.tmp 0] (aJA T.nil h):=kR
def aT6:fu 29 aEt:=prX aN [] [] bC func29
abbrev amB:Fun:=Ik.aqN
def aJK:fu 40 amB:=Ik.aNG
abbrev ati:Fun:=Ik.aqM
def aGV:fu 41 ati:=Ik.aNF
def aoP:Rg:=λf h=>amB [Y U 4000] h λa b=>f 2 λc=>Gm c b λd i=>ati [a,d] i λj m=>a! (ss 7 j f) m
def aoO:=rC 8 (H [])
def aoN:=rC 9 (Y U 0)
def TA:Rg:=λf h=>f 9 λa=>f 7 λb=>aZ 2 b h λc d=>aH .lss .none a c d λi j=>a! (ss 19 i f) j
def abD:Rg:=λf h=>f 0 λa=>f 1 λb=>f 7 λc=>f 9 λd=>aX 2 c d h λi j=>bH 2 i j λm n=>aiB [a,b,Y U 0,m] n λo p=>bK 0 o p λq r=>bK 1 o r λs t=>a! (ss 11 s (ss 10 q f)) t
def abC:=r2 8 8 10 λa b h=>aH .add .none a b h
def abB:=r1 36 11 λa h=>oUn .not a h
def aoL:=rM 6 8
def TF:Rg:=aB (aB TA (tT 19 a! (Out.ex 0))) (aB (bD 1 (aB abD (aB abC (aB abB (tT 36 (Out.ex 0) a!))))) ni)
def amm:Rg:=aB amc (aB aoP (aB aoO (aB (aB aoN (bD 0 (dG TF lf))) (aB aoL b!))))
def yC:Fun:=c_ [0,1,2,6,7,8,9,10,11,19,36] f13.ntmps [.tmp 6] amm
def azP:=fE3 yC rfl
def ax3:fu 13 yC:=prX aN [] [] (aU aJK (aU aGV (aU aTp bC))) func13
def asB:Rg:=λf h=>aEt [] h λa b=>a! (ss 3 a f) b
def asA:Rg:=λf h=>f 3 λa=>f 0 λb=>yC [a,b,H [97,32,76,79,71,73,78,32,117,32,112,13,10,98,32,83,69,76,69,67,84,32,73,78,66,79,88,13,10]] h λc d=>a! f d
def aCG:Rg:=aB ajZ (aB asB (aB asA (aB ajV b!)))
def NG:Fun:=c_ [0,2,3] f12.ntmps [.tmp 2] aCG
def aEs:=fE1 NG rfl
def aOB:fu 12 NG:=prX aN [] [] (aU aT6 (aU ax3 bC)) func12
def adR:Rg:=λf h=>Xp [] h λa b=>acw [a] b λc d=>bK 0 c d λi j=>bK 1 c j λm n=>a! (ss 4 m (ss 3 i f)) n
def adQ:Rg:=λf h=>f 4 λa=>acB [a] h λb c=>aH .neq .none b (Y U 0) c λd i=>ifB d (a! (ss 17 (K true) f) i) (f 3 λj=>aH .eql (.ptr 16) j .dn i λm n=>a! (ss 17 m f) n)
def QJ:Rg:=λf h=>f 5 λa=>f 0 λb=>aZ 2 b h λc d=>aH .lss .none a c d λi j=>a! (ss 21 i f) j
def adN:Rg:=λf h=>f 3 λa=>bU 3 [Y U 0] 1 [(0,1,(Y U 1))] h λb c=>f 5 λd=>f 0 λi=>aX 1 i d c λj m=>aF j m λn o=>Ov [a,b,.aP,d,n] o λp q=>a! f q
def RJ:Rg:=aB (aB QJ (tT 21 a! (Out.ex 0))) (aB (bD 1 adN) wG)
def YD:Rg:=aB ajZ (aB adR (aB (aB adQ (tT 17 zz a!)) (aB (aB aq5 (bD 0 (dG RJ lf))) (aB ajV b!))))
def Ox:Fun:=c_ [0,2,3,4,5,17,21] f10.ntmps [.tmp 2] YD
def arz:=fE1 Ox rfl
def azu:fu 10 Ox:=prX aN [3] [] (aU aGX (aU aJH (aU aJJ (aU azs bC)))) func10
abbrev yB:Fun:=Ik.aF8
def aEi:fu 9 yB:=Ik.aR2
abbrev ahN:Fun:=Ik.aqT
def aGU:fu 18 ahN:=Ik.aOf
def FY:Rg:=λf h=>f 1 λa=>aZ 2 a h λb c=>aH .gtr .none b (Y U 20) c λd i=>a! (ss 21 d f) i
def VG:Rg:=λf h=>yB [] h λa b=>a! (ss 4 a f) b
def VF:Rg:=λf h=>f 0 λa=>jS U a h λb c=>aH .rem .none b (Y U 9) c λd i=>aH .add .none (Y U 1) d i λj m=>a! (ss 5 j f) m
def VE:Rg:=λf h=>f 5 λa=>xE 9 16 [H []] a a h λb c=>Ox [b] c λd i=>a! (ss 6 d f) i
def VD:=r1 31 6 λa h=>aH .eql (.ptr 16) a .dn h
def VB:Rg:=λf h=>f 6 λa=>NG [a] h λb c=>NG [a] c λd i=>a! (ss 8 d (ss 7 b f)) i
def VA:Rg:=λf h=>fA 44 [(K false),(K false),(K false),(K false),(K false)] h λa b=>a! (ss 9 a f) b
def vN:Rg:=λf h=>f 10 λa=>f 1 λb=>aZ 2 b h λc d=>aH .lss .none a c d λi j=>a! (ss 39 i f) j
def Eo:Rg:=λf h=>f 1 λa=>f 10 λb=>aX 1 a b h λc d=>aF c d λi j=>jS U i j λm n=>aH .rem .none m (Y U 5) n λo p=>a! (ss 11 o f) p
def Ej:=rC 12 (H [43])
def Ei:Rg:=λf h=>f 1 λa=>f 10 λb=>aX 1 a b h λc d=>aF c d λi j=>aH .geq .none i (Y .u8 128) j λm n=>a! (ss 52 m f) n
def SC:=rC 12 (H [45])
def Eh:Rg:=λf h=>f 11 λa=>f 1 λb=>f 10 λc=>aX 1 b c h λd i=>aF d i λj m=>aH .lss .none j (Y .u8 128) m λn o=>f 9 λp=>WJ 5 1 p a o λq r=>aS 1 q n r λ_ s=>a! f s
def Eg(fr:F)(h:Hp):Out:=
 fr 7 λa=>fr 6 λb=>fr 5 λc=>lQ [c] h λd i=>
 aH .add .none (H [120,32,83,84,79,82,69,32]) d i λj m=>
 aH .add .none j (H [32]) m λn o=>
 fr 12 λp=>aH .add .none n p o λq r=>
 aH .add .none q (H [70,76,65,71,83,46,83,73,76,69,78,84,32,40]) r λs t=>
 fr 11 λu=>ahN [u] t λv w=>
 aH .add .none s v w λx y=>
 aH .add .none x (H [41,13,10]) y λz e=>
 yC [a,b,z] e λf g=>
 a! (ss 13 f fr) g
def Ef:=r1 75 13 λa h=>aH .neq .none a (H [120,32,79,75,32,100,111,110,101,13,10]) h
def Sz:=rC 14 (H [])
def Sv:=rC 15 (Y U 0)
def qg:=r1 77 15 λa h=>aH .lss .none a (Y U 5) h
def vK:Rg:=λf h=>f 15 λa=>f 9 λb=>WJ 5 1 b a h λc d=>aF c d λi j=>a! (ss 82 i f) j
def DZ:=r1 84 14 λa h=>aH .neq .none a (H []) h
def Sr:=r1 14 14 λa h=>aH .add .none a (H [32]) h
def DY:Rg:=λf h=>f 14 λa=>f 15 λb=>ahN [b] h λc d=>aH .add .none a c d λi j=>a! (ss 14 i f) j
def vM:=r1 15 15 λa h=>aH .add .none a (Y U 1) h
def vJ:Rg:=λf h=>f 7 λa=>f 6 λb=>f 5 λc=>lQ [c] h λd i=>aH .add .none (H [121,32,70,69,84,67,72,32]) d i λj m=>aH .add .none j (H [32,70,76,65,71,83,13,10]) m λn o=>yC [a,b,n] o λp q=>a! (ss 16 p f) q
def vI:=r2 17 8 6 λa b h=>yC [a,b,H [122,32,78,79,79,80,13,10]] h
def vH:Rg:=λf h=>f 16 λa=>f 5 λb=>lQ [b] h λc d=>aH .add .none (H [42,32]) c d λi j=>aH .add .none i (H [32,70,69,84,67,72,32,40,70,76,65,71,83,32,40]) j λm n=>f 14 λo=>aH .add .none m o n λp q=>aH .add .none p (H [41,41,13,10,121,32,79,75,32,100,111,110,101,13,10]) q λr s=>aH .neq .none a r s λt u=>a! (ss 109 t f) u
def vG(fr:F)(h:Hp):Out:=
 fr 5 λa=>lQ [a] h λb c=>
 aH .add .none (H [42,32]) b c λd i=>
 aH .add .none d (H [32,70,69,84,67,72,32,40,85,73,68,32]) i λj m=>
 lQ [a] m λn o=>
 aH .add .none j n o λp q=>
 aH .add .none p (H [32,70,76,65,71,83,32,40]) q λr s=>
 fr 14 λt=>aH .add .none r t s λu v=>
 aH .add .none u (H [41,32,77,79,68,83,69,81,32,40]) v λw x=>
 fr 6 λy=>yh [y] x λz e=>
 lQ [z] e λf g=>
 aH .add .none w f g λk l=>
 aH .add .none k (H [41,41,13,10]) l λB C=>
 a! (ss 18 B fr) C
def vF:Rg:=λf h=>f 17 λa=>aH .eql .none a (H [122,32,79,75,32,100,111,110,101,13,10]) h λb c=>ifB b (f 14 λd=>aH .eql .none d (H []) c λi j=>ifB i (yB [] j λm n=>a! (ss 4 m f) n) (aH .neq .none a (H [122,32,79,75,32,100,111,110,101,13,10]) j λo p=>ifB o (yB [] p λm n=>a! (ss 4 m f) n) (a! (ss 4 (K false) f) p))) (f 18 λq=>aH .add .none q (H [122,32,79,75,32,100,111,110,101,13,10]) c λr s=>aH .eql .none a r s λt u=>ifB t (f 14 λd=>aH .eql .none d (H []) u λi j=>ifB i (yB [] j λm n=>a! (ss 4 m f) n) (aH .neq .none a (H [122,32,79,75,32,100,111,110,101,13,10]) j λo p=>ifB o (yB [] p λm n=>a! (ss 4 m f) n) (a! (ss 4 (K false) f) p))) (a! (ss 4 (K false) f) u))
def vP:Rg:=aB (aB vN (tT 39 a! (Out.ex 0))) (aB (bD 1 (aB Eo (aB Ej (aB (aB Ei (tT 52 SC a!)) (aB Eh (aB Eg (aB Ef (tT 75 zz a!)))))))) ny)
def qi:Rg:=aB (aB qg (tT 77 a! (Out.ex 2))) (aB (bD 3 (aB vK (tT 82 (aB (aB DZ (tT 84 Sr a!)) DY) a!))) vM)
def BV:Rg:=aB af7 (aB (aB FY (tT 21 (aB VG b!) a!)) (aB VF (aB VE (aB (aB VD (tT 31 zz a!)) (aB VB (aB VA (aB (aB nD (bD 0 (dG vP lf))) (aB Sz (aB (aB Sv (bD 2 (dG qi lf))) (aB vJ (aB vI (aB (aB vH (tT 109 zz a!)) (aB vG (aB vF b!))))))))))))))
def Ci:Fun:=c_ [0,1,4,5,6,7,8,9,10,11,12,13,14,15,16,17,18,21,31,39,52,75,77,82,84,109] f5.ntmps [.tmp 4] BV
def aiK:=fE2 Ci rfl
def arj:fu 5 Ci:=prX aN [6,19,31] [] (aU aEi (aU azu (aU aOB (aU azt (aU aGU (aU ax3 (aU ace bC))))))) func5
end Go.Proofs.Im
