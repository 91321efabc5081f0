/- Part of the value machine, or of a walk by it: lemmas that the claim's last text uses. No conditions. -/
import Derived.Test.YtpgppmioigacoaaGreatDoorSlAL
import Derived.Test.YtpgppmioigacoaaGreatDoorSlAO
import Derived.Test.YtpgppmioigacoaaGreatDoorSlAN
set_option linter.unusedVariables false
set_option linter.unusedSimpArgs false
set_option linter.unnecessarySimpa false
noncomputable section
namespace Go.Proofs.Im
open Go Go.Proofs Go.Vm
set_option maxRecDepth 100000
set_option maxHeartbeats 4000000
abbrev tBd:TypeId:=141
abbrev tA:TypeId:=145
abbrev tRq:TypeId:=143
abbrev tCn:TypeId:=119
abbrev Kw:TypeId:=62
abbrev apB:TypeId:=122
abbrev aHi:TypeId:=94
abbrev aHh:TypeId:=149
abbrev tSS:TypeId:=26
abbrev tSt:TypeId:=78
abbrev tLg:TypeId:=130
abbrev tBx:TypeId:=55
abbrev tMl:TypeId:=40
abbrev tEn:TypeId:=85
abbrev tMb:TypeId:=106
abbrev vz:TypeId:=9
abbrev fB:TypeId:=3
abbrev tVw:TypeId:=246
abbrev tVm:TypeId:=248
abbrev tTh:TypeId:=250
abbrev tMs:TypeId:=200
abbrev tPr:TypeId:=138
abbrev aQu:TypeId:=98
abbrev tRs:TypeId:=96
abbrev tPs:TypeId:=24
abbrev tTs:TypeId:=242
abbrev tBs:TypeId:=22
abbrev tBl:TypeId:=4
abbrev tIs:TypeId:=36
abbrev tAt:TypeId:=75
abbrev tAs:TypeId:=406
abbrev tFl:TypeId:=263
abbrev Oa:Nat:=47
abbrev aeD:Nat:=52
abbrev aNj:Nat:=57
abbrev auh:Nat:=58
abbrev aNi:Nat:=59
abbrev aHj:Nat:=60
abbrev Uo:Nat:=61
abbrev Nr:Nat:=62
abbrev amu:Nat:=63
abbrev aue:Nat:=64
abbrev ams:Nat:=65
abbrev aud:Nat:=66
abbrev amq:Nat:=67
abbrev amv:Nat:=68
abbrev arq:Nat:=69
abbrev ais:Nat:=70
abbrev amr:Nat:=71
abbrev arp:Nat:=72
abbrev aro:Nat:=73
abbrev auf:Nat:=74
abbrev auc:Nat:=75
abbrev arn:Nat:=77
abbrev ars:Nat:=79
abbrev Ei:Nat:=102
abbrev air:Nat:=104
abbrev aPw:Nat:=155
abbrev aPv:Nat:=156
abbrev aPu:Nat:=158
abbrev aub:Nat:=169
abbrev aiq:Nat:=174
abbrev Eh:Nat:=176
abbrev AV:Nat:=178
abbrev aug:Nat:=208
abbrev Hz:Nat:=217
abbrev xu:Nat:=218
abbrev acP:Nat:=222
abbrev aP4:Nat:=225
abbrev aPx:Nat:=250
abbrev aPZ:Nat:=256
abbrev XU:Nat:=284
abbrev Sj:Nat:=287
abbrev Un:Nat:=290
abbrev aeC:Nat:=301
abbrev aQr:Nat:=329
def ayK:Fun:=Zn .i64
theorem aPn:aJ Tryz.prog aN 166 ayK:=anr Tryz.func166 (by kernel_rfl) (by kernel_rfl) (by kernel_rfl) .i64 (by kernel_rfl)
def Np:Fun:=abh .i64
theorem aqX:aJ Tryz.prog aN 101 Np:=aze Tryz.func101 (by kernel_rfl) (by kernel_rfl) (by kernel_rfl) .i64 (by kernel_rfl)
def JL:Fun:=Ot
theorem apf:aJ Tryz.prog aN 108 JL:=afi Tryz.func108 (by kernel_rfl) (by kernel_rfl) (by kernel_rfl) (by kernel_rfl)
def ax8:=rC 4 (.int .i64 0)
def ax7(fr:F)(h:Hp):Out:=
 gtO (ge 0 fr) fun a=>aA (aK a h) fun b c=>
 aA (aC 0 b c) fun d i=>
 gtO (ge 1 fr) fun j=>aA (ayK [d,j] i) fun m n=>
 Out.nor (ss 4 m fr) n
def ayd:F→Hp→Out:=(aB ax8 (aB ax7 Out.ret))
def aax:Fun:=bG Tryz.prog (kp [0,1,4]) Tryz.f84.ntmps [.tmp 4] ayd
theorem aG4(x0 x1:V)(h:Hp):aax [x0,x1] h=aT Tryz.prog [.tmp 4] (ayd (ss 1 x1 (ss 0 x0 T.nil)) h):=by kernel_rfl
theorem aGW:aJ Tryz.prog aN 84 aax:=prX aP [] [] (aW aPn bH) Tryz.func84
def aj0:=rC 2 (.int .i64 0)
def ajZ(fr:F)(h:Hp):Out:=
 gtO (ge 0 fr) fun a=>aA (aK a h) fun b c=>
 aA (aC 0 b c) fun d i=>
 aA (Np [d] i) fun j m=>
 Out.nor (ss 2 j fr) m
def ag9:F→Hp→Out:=(aB aj0 (aB ajZ Out.ret))
def xg:Fun:=bG Tryz.prog (kp [0,2]) Tryz.f44.ntmps [.tmp 2] ag9
theorem ayH(x0:V)(h:Hp):xg [x0] h=aT Tryz.prog [.tmp 2] (ag9 (ss 0 x0 T.nil) h):=by kernel_rfl
theorem XA:aJ Tryz.prog aN 44 xg:=prX aP [] [] (aW aqX bH) Tryz.func44
def agM(fr:F)(h:Hp):Out:=
 gtO (ge 0 fr) fun a=>aA (aK a h) fun b c=>
 aA (aC 0 b c) fun d i=>
 gtO (ge 1 fr) fun j=>aA (JL [d,j] i) fun m n=>
 Out.nor fr n
def acs:F→Hp→Out:=agM
def qE:Fun:=bG Tryz.prog (kp [0,1]) Tryz.f56.ntmps [] acs
theorem atz(x0 x1:V)(h:Hp):qE [x0,x1] h=aT Tryz.prog [] (acs (ss 1 x1 (ss 0 x0 T.nil)) h):=by kernel_rfl
theorem TA:aJ Tryz.prog aN 56 qE:=prX aP [] [] (aW apf bH) Tryz.func56
def ax5:=rC 2 (.str [])
def ax4(fr:F)(h:Hp):Out:=
 gtO (ge 0 fr) fun a=>aA (aY 1 a h) fun b c=>
 aA (SE 5 1 [(.int .u8 0)] (.int .i64 0) b c) fun d i=>
 Out.nor (ss 3 d fr) i
def ax3(fr:F)(h:Hp):Out:=
 gtO (ge 0 fr) fun a=>aA (aY 1 a h) fun b c=>
 Out.nor (ss 11 (.int .i64 0) (ss 10 b fr)) c
def VO:=r2 12 11 10 fun a b h=>aI .lss .none a b h
def ab2:=rM 4 11
def ab1:=r2 5 0 4 fun a b h=>dG a b h
def abZ(fr:F)(h:Hp):Out:=
 gtO (ge 5 fr) fun a=>aA (aI .geq .none a (.int .u8 65) h) fun b c=>
 ifB b (aA (aI .leq .none a (.int .u8 90) c) fun d i=>
 Out.nor (ss 22 d fr) i) (Out.nor (ss 22 (.bool false) fr) c)
def abY:=r1 5 5 fun a h=>aI .add .none a (.int .u8 32) h
def abX(fr:F)(h:Hp):Out:=
 gtO (ge 3 fr) fun a=>gtO (ge 5 fr) fun b=>aA (bI 5 [(.int .u8 0)] 1 [(0,1,b)] h) fun c d=>
 aA (bT 5 1 1 a c d) fun i j=>
 Out.nor (ss 3 i fr) j
def abW:=r1 11 11 fun a h=>aI .add .none a (.int .i64 1) h
def asG(fr:F)(h:Hp):Out:=
 gtO (ge 3 fr) fun a=>aA (kY a h) fun b c=>
 Out.nor (ss 2 b fr) c
def Wi:F→Hp→Out:=(aB VO (aB (aV (.tmp 12) Out.nor (Out.ex 0)) (aB (bP 1 (aB ab2 (aB ab1 (aB (aB abZ (aV (.tmp 22) abY Out.nor)) abX)))) abW)))
def ayb:F→Hp→Out:=(aB ax5 (aB ax4 (aB (aB ax3 (bP 0 (dI Wi lf))) (aB asG Out.ret))))
def zh:Fun:=bG Tryz.prog (kp [0,2,3,4,5,10,11,12,22]) Tryz.f95.ntmps [.tmp 2] ayb
theorem aG3(x0:V)(h:Hp):zh [x0] h=aT Tryz.prog [.tmp 2] (ayb (ss 0 x0 T.nil) h):=by kernel_rfl
theorem ahh:aJ Tryz.prog aN 95 zh:=prX aP [] [] bH Tryz.func95
def qC:Fun:=avx
theorem acz:aJ Tryz.prog aN 289 qC:=ap5 Tryz.func289 (by kernel_rfl) (by kernel_rfl) (by kernel_rfl) (by kernel_rfl)
def F8:=rC 4 (.int .i64 0)
def F7:=r2 4 0 1 fun a b h=>qC [a,b] h
def Dy:F→Hp→Out:=(aB F8 (aB F7 Out.ret))
def qL:Fun:=bG Tryz.prog (kp [0,1,4]) Tryz.f184.ntmps [.tmp 4] Dy
theorem RZ(x0 x1:V)(h:Hp):qL [x0,x1] h=aT Tryz.prog [.tmp 4] (Dy (ss 1 x1 (ss 0 x0 T.nil)) h):=by kernel_rfl
theorem aaj:aJ Tryz.prog aN 184 qL:=prX aP [] [] (aW acz bH) Tryz.func184
def VB:=rC 4 (.int .i64 0)
def VA:=r2 4 0 1 fun a b h=>qL [a,b] h
def MV:F→Hp→Out:=(aB VB (aB VA Out.ret))
def nV:Fun:=bG Tryz.prog (kp [0,1,4]) Tryz.f107.ntmps [.tmp 4] MV
theorem ail(x0 x1:V)(h:Hp):nV [x0,x1] h=aT Tryz.prog [.tmp 4] (MV (ss 1 x1 (ss 0 x0 T.nil)) h):=by kernel_rfl
theorem aak:aJ Tryz.prog aN 107 nV:=prX aP [] [] (aW aaj bH) Tryz.func107
def aiZ:=rC 2 (.bool false)
def aiY(fr:F)(h:Hp):Out:=
 gtO (ge 0 fr) fun a=>aA (aY 1 a h) fun b c=>
 Out.nor (ss 6 (.int .i64 0) (ss 5 b fr)) c
def aiX:=r2 7 6 5 fun a b h=>aI .lss .none a b h
def Es:=rM 3 6
def Ep(fr:F)(h:Hp):Out:=
 gtO (ge 0 fr) fun a=>gtO (ge 3 fr) fun b=>aA (dG a b h) fun c d=>
 aA (aI .lss .none c (.int .u8 33) d) fun i j=>
 ifB i (Out.nor (ss 25 (.bool true) fr) j) (aA (dG a b j) fun m n=>
 aA (aI .gtr .none m (.int .u8 126) n) fun o p=>
 ifB o (Out.nor (ss 25 (.bool true) fr) p) (aA (dG a b p) fun q r=>
 aA (nV [(.str [40,41,123,125,37,42,34,92,93]),q] r) fun s t=>
 aA (aI .geq .none s (.int .i64 0) t) fun u v=>
 Out.nor (ss 25 u fr) v))
def NP:=rC 2 (.bool false)
def aiW:=r1 6 6 fun a h=>aI .add .none a (.int .i64 1) h
def aiV:=r1 2 0 fun a h=>aI .neq .none a (.str []) h
def akc:F→Hp→Out:=(aB aiX (aB (aV (.tmp 7) Out.nor (Out.ex 0)) (aB (bP 1 (aB Es (aB Ep (aV (.tmp 25) (aB NP Out.ret) Out.nor)))) aiW)))
def Xt:F→Hp→Out:=(aB aiZ (aB (aB aiY (bP 0 (dI akc lf))) (aB aiV Out.ret)))
def wZ:Fun:=bG Tryz.prog (kp [0,2,3,5,6,7,25]) Tryz.f54.ntmps [.tmp 2] Xt
theorem ayt(x0:V)(h:Hp):wZ [x0] h=aT Tryz.prog [.tmp 2] (Xt (ss 0 x0 T.nil) h):=by kernel_rfl
theorem asK:aJ Tryz.prog aN 54 wZ:=prX aP [] [] (aW aak bH) Tryz.func54
def Am:=rC 2 .aG
def Ak:=r1 4 0 fun a h=>aI .eql .slice a .aG h
def Xi:=rC 2 .aG
def Jj(fr:F)(h:Hp):Out:=
 aA (apQ 3 h) fun a b=>
 gtO (ge 0 fr) fun c=>aA (bT 3 1 8 a c b) fun d i=>
 Out.nor (ss 2 d fr) i
def yV:F→Hp→Out:=(aB Am (aB (aB Ak (aV (.tmp 4) (aB Xi Out.ret) Out.nor)) (aB Jj Out.ret)))
def y9:Fun:=bG Tryz.prog (kp [0,2,4]) Tryz.f86.ntmps [.tmp 2] yV
theorem amd(x0:V)(h:Hp):y9 [x0] h=aT Tryz.prog [.tmp 2] (yV (ss 0 x0 T.nil) h):=by kernel_rfl
theorem ad9:aJ Tryz.prog aN 86 y9:=prX aP [] [] bH Tryz.func86
def Aq:=rC 2 .aG
def Ap:=r1 4 0 fun a h=>aI .eql .slice a .aG h
def Xj:=rC 2 .aG
def Jk(fr:F)(h:Hp):Out:=
 aA (apQ 55 h) fun a b=>
 gtO (ge 0 fr) fun c=>aA (bT 55 6 56 a c b) fun d i=>
 Out.nor (ss 2 d fr) i
def yX:F→Hp→Out:=(aB Aq (aB (aB Ap (aV (.tmp 4) (aB Xj Out.ret) Out.nor)) (aB Jk Out.ret)))
def FD:Fun:=bG Tryz.prog (kp [0,2,4]) Tryz.f53.ntmps [.tmp 2] yX
theorem ame(x0:V)(h:Hp):FD [x0] h=aT Tryz.prog [.tmp 2] (yX (ss 0 x0 T.nil) h):=by kernel_rfl
theorem atf:aJ Tryz.prog aN 53 FD:=prX aP [] [] bH Tryz.func53
def uz:=rC 2 .aG
def uw:=r1 4 0 fun a h=>aI .eql .slice a .aG h
def Pj:=rC 2 .aG
def BV(fr:F)(h:Hp):Out:=
 aA (apQ 106 h) fun a b=>
 gtO (ge 0 fr) fun c=>aA (bT 106 2 16 a c b) fun d i=>
 Out.nor (ss 2 d fr) i
def rH:F→Hp→Out:=(aB uz (aB (aB uw (aV (.tmp 4) (aB Pj Out.ret) Out.nor)) (aB BV Out.ret)))
def yC:Fun:=bG Tryz.prog (kp [0,2,4]) Tryz.f100.ntmps [.tmp 2] rH
theorem aes(x0:V)(h:Hp):yC [x0] h=aT Tryz.prog [.tmp 2] (rH (ss 0 x0 T.nil) h):=by kernel_rfl
theorem al6:aJ Tryz.prog aN 100 yC:=prX aP [] [] bH Tryz.func100
def uq:=rC 2 .aG
def uo:=r1 4 0 fun a h=>aI .eql .slice a .aG h
def Ph:=rC 2 .aG
def BU(fr:F)(h:Hp):Out:=
 aA (apQ 9 h) fun a b=>
 gtO (ge 0 fr) fun c=>aA (bT 9 1 16 a c b) fun d i=>
 Out.nor (ss 2 d fr) i
def rG:F→Hp→Out:=(aB uq (aB (aB uo (aV (.tmp 4) (aB Ph Out.ret) Out.nor)) (aB BU Out.ret)))
def rQ:Fun:=bG Tryz.prog (kp [0,2,4]) Tryz.f81.ntmps [.tmp 2] rG
theorem aer(x0:V)(h:Hp):rQ [x0] h=aT Tryz.prog [.tmp 2] (rG (ss 0 x0 T.nil) h):=by kernel_rfl
theorem V8:aJ Tryz.prog aN 81 rQ:=prX aP [] [] bH Tryz.func81
def Ea:=rC 2 .aG
def D9(fr:F)(h:Hp):Out:=
 gtO (ge 0 fr) fun a=>aA (aY 2 a h) fun b c=>
 aA (aI .lss .none b (.int .i64 2) c) fun d i=>
 Out.nor (ss 8 d fr) i
def RJ:=rM 2 0
def RI:=rC 3 (.int .i64 1)
def D8(fr:F)(h:Hp):Out:=
 gtO (ge 3 fr) fun a=>gtO (ge 0 fr) fun b=>aA (aY 2 b h) fun c d=>
 aA (aI .lss .none a c d) fun i j=>
 Out.nor (ss 13 i fr) j
def RG(fr:F)(h:Hp):Out:=
 gtO (ge 0 fr) fun a=>gtO (ge 3 fr) fun b=>aA (bU 1 a b (aH 0 h)) fun c _=>
 aA (aF c (aH 0 h)) fun d _=>
 gtO (ge 0 fr) fun i=>gtO (ge 3 fr) fun j=>aA (aI .sub .none j (.int .i64 1) (aH 0 h)) fun m _=>
 aA (bU 1 i m (aH 0 h)) fun n _=>
 aA (aF n (aH 0 h)) fun o _=>
 aA (aI .eql .none d o (aH 0 h)) fun p _=>
 Out.nor (ss 25 p fr) (aH 0 h)
def RH:=r1 3 3 fun a h=>aI .add .none a (.int .i64 1) h
def Pg:=rM 2 0
def aG8:F→Hp→Out:=zz
def Ee:F→Hp→Out:=(aB (aB D8 (aV (.tmp 13) Out.nor (Out.ex 0))) (aB (bP 1 (aB RG (aV (.tmp 25) zz Out.nor))) RH))
def uT:F→Hp→Out:=(aB Ea (aB (aB D9 (aV (.tmp 8) (aB RJ Out.ret) Out.nor)) (aB (aB RI (bP 0 (dI Ee lf))) (aB Pg Out.ret))))
def pz:Fun:=bG Tryz.prog (kp [0,2,3,4,5,8,13,25,32,44]) Tryz.f88.ntmps [.tmp 2] uT
theorem PU(x0:V)(h:Hp):pz [x0] h=aT Tryz.prog [.tmp 2] (uT (ss 0 x0 T.nil) h):=by kernel_rfl
theorem Xz:aJ Tryz.prog aN 88 pz:=prX aP [7,8,9,11,12,13,10,14,15] [(6,[0,0,3,7,0,0,32,112,240,511],fO [0,16,32,51,64,80,96,112,131,144])] bH Tryz.func88
def Ji:=rC 2 .aG
def Jh(fr:F)(h:Hp):Out:=
 gtO (ge 0 fr) fun a=>aA (aY 2 a h) fun b c=>
 aA (aI .lss .none b (.int .i64 2) c) fun d i=>
 Out.nor (ss 8 d fr) i
def Jg:=rM 2 0
def aEg:F→Hp→Out:=zz
def aEh:F→Hp→Out:=zz
def CS:F→Hp→Out:=(aB Ji (aB (aB Jh (aV (.tmp 8) (aB Jg Out.ret) Out.nor)) zz))
def uY:Fun:=bG Tryz.prog (kp [0,2,3,4,5,8,13,25,32,44]) Tryz.f83.ntmps [.tmp 2] CS
theorem aat(x0:V)(h:Hp):uY [x0] h=aT Tryz.prog [.tmp 2] (CS (ss 0 x0 T.nil) h):=by kernel_rfl
theorem ahg:aJ Tryz.prog aN 83 uY:=prX aP [3,4,6,7,8,9,11,12,13,10,14,15,5,16] [] bH Tryz.func83
def ajs(fr:F)(h:Hp):Out:=
 gtO (ge 0 fr) fun a=>aA (fV 55 a h) fun b c=>
 Out.nor (ss 3 (.bool false) (ss 2 b fr)) c
def ajr(fr:F)(h:Hp):Out:=
 gtO (ge 2 fr) fun a=>aA (aC 0 a h) fun b c=>
 aA (aF b c) fun d i=>
 gtO (ge 1 fr) fun j=>aA (aF j i) fun m n=>
 aA (aI .eql .none d m n) fun o p=>
 Out.nor (ss 3 o fr) p
def ag4:F→Hp→Out:=(aB ajs (aB ajr Out.ret))
def PO:Fun:=bG Tryz.prog (kp [0,1,2,3]) Tryz.f169.ntmps [.tmp 3] ag4
theorem ayA(x0 x1:V)(h:Hp):PO [x0,x1] h=aT Tryz.prog [.tmp 3] (ag4 (ss 1 x1 (ss 0 x0 T.nil)) h):=by kernel_rfl
theorem aGL:aJ Tryz.prog aN 169 PO:=prX aP [] [] bH Tryz.func169
def ajR(fr:F)(h:Hp):Out:=
 gtO (ge 0 fr) fun a=>aA (fV 55 a h) fun b c=>
 Out.nor (ss 3 (.bool false) (ss 2 b fr)) c
def ajQ(fr:F)(h:Hp):Out:=
 gtO (ge 2 fr) fun a=>aA (aC 0 a h) fun b c=>
 aA (aF b c) fun d i=>
 gtO (ge 1 fr) fun j=>aA (aF j i) fun m n=>
 aA (aI .eql .none d m n) fun o p=>
 Out.nor (ss 3 o fr) p
def ag7:F→Hp→Out:=(aB ajR (aB ajQ Out.ret))
def PZ:Fun:=bG Tryz.prog (kp [0,1,2,3]) Tryz.f208.ntmps [.tmp 3] ag7
theorem ayF(x0 x1:V)(h:Hp):PZ [x0,x1] h=aT Tryz.prog [.tmp 3] (ag7 (ss 1 x1 (ss 0 x0 T.nil)) h):=by kernel_rfl
theorem aGT:aJ Tryz.prog aN 208 PZ:=prX aP [] [] bH Tryz.func208
def aiS(fr:F)(h:Hp):Out:=
 gtO (ge 0 fr) fun a=>aA (fV 55 a h) fun b c=>
 Out.nor (ss 3 (.bool false) (ss 2 b fr)) c
def aiR(fr:F)(h:Hp):Out:=
 gtO (ge 2 fr) fun a=>aA (aC 0 a h) fun b c=>
 aA (aF b c) fun d i=>
 gtO (ge 1 fr) fun j=>aA (aF j i) fun m n=>
 aA (aI .eql .none d m n) fun o p=>
 Out.nor (ss 3 o fr) p
def agX:F→Hp→Out:=(aB aiS (aB aiR Out.ret))
def PK:Fun:=bG Tryz.prog (kp [0,1,2,3]) Tryz.f290.ntmps [.tmp 3] agX
theorem ays(x0 x1:V)(h:Hp):PK [x0,x1] h=aT Tryz.prog [.tmp 3] (agX (ss 1 x1 (ss 0 x0 T.nil)) h):=by kernel_rfl
theorem aGH:aJ Tryz.prog aN 290 PK:=prX aP [] [] bH Tryz.func290
def Xe(fr:F)(h:Hp):Out:=
 gtO (ge 0 fr) fun a=>aA (fV 55 a h) fun b c=>
 Out.nor (ss 3 (.bool false) (ss 2 b fr)) c
def Xd(fr:F)(h:Hp):Out:=
 gtO (ge 2 fr) fun a=>aA (aC 0 a h) fun b c=>
 aA (aF b c) fun d i=>
 gtO (ge 1 fr) fun j=>aA (aF j i) fun m n=>
 aA (aI .eql .none d m n) fun o p=>
 Out.nor (ss 3 o fr) p
def Q8:F→Hp→Out:=(aB Xe (aB Xd Out.ret))
def yZ:Fun:=bG Tryz.prog (kp [0,1,2,3]) Tryz.f301.ntmps [.tmp 3] Q8
theorem amb(x0 x1:V)(h:Hp):yZ [x0,x1] h=aT Tryz.prog [.tmp 3] (Q8 (ss 1 x1 (ss 0 x0 T.nil)) h):=by kernel_rfl
theorem atd:aJ Tryz.prog aN 301 yZ:=prX aP [] [] bH Tryz.func301
def kD:FuncId→Option Fun:=kZ [(169,PO),(208,PZ),(290,PK),(301,yZ)]
def Kq:=rC 4 (.int .i64 0)
def Ko(fr:F)(h:Hp):Out:=
 gtO (ge 0 fr) fun a=>aA (aY 2 a h) fun b c=>
 Out.nor (ss 8 (.int .i64 0) (ss 7 b fr)) c
def J9:=r2 9 8 7 fun a b h=>aI .lss .none a b h
def J8:=rM 5 8
def J7(fr:F)(h:Hp):Out:=
 gtO (ge 1 fr) fun a=>gtO (ge 0 fr) fun b=>gtO (ge 5 fr) fun c=>aA (bU 6 b c h) fun d i=>
 aA (bW 6 d i) fun j m=>
 aA (dX kD a [j] m) fun n o=>
 Out.nor (ss 16 n fr) o
def J6:=rM 4 5
def J4:=r1 8 8 fun a h=>aI .add .none a (.int .i64 1) h
def JZ:=rC 4 (.int .i64 (-1))
def Ku:F→Hp→Out:=(aB J9 (aB (aV (.tmp 9) Out.nor (Out.ex 0)) (aB (bP 1 (aB J8 (aB J7 (aV (.tmp 16) (aB J6 Out.ret) Out.nor)))) J4)))
def vV:F→Hp→Out:=(aB Kq (aB (aB Ko (bP 0 (dI Ku lf))) (aB JZ Out.ret)))
def kE:Fun:=bG Tryz.prog (kp [0,1,4,5,7,8,9,16]) Tryz.f168.ntmps [.tmp 4] vV
theorem acL(x0 x1:V)(h:Hp):kE [x0,x1] h=aT Tryz.prog [.tmp 4] (vV (ss 1 x1 (ss 0 x0 T.nil)) h):=by kernel_rfl
theorem vW:aJ Tryz.prog aN 168 kE:=prX aP [] [] (aW aGL (aW aGT (aW aGH (aW atd bH)))) Tryz.func168
def aox(fr:F)(h:Hp):Out:=
 gtO (ge 1 fr) fun a=>aA (fV 3 a h) fun b c=>
 Out.nor (ss 4 (.int .i64 0) (ss 3 b fr)) c
def aow(fr:F)(h:Hp):Out:=
 gtO (ge 0 fr) fun a=>aA (aK a h) fun b c=>
 aA (aC 10 b c) fun d i=>
 aA (aF d i) fun j m=>
 gtO (ge 3 fr) fun n=>aA (fK (.func 169) [] [n] m) fun o p=>
 aA (kE [j,o] p) fun q r=>
 Out.nor (ss 4 q fr) r
def alY:F→Hp→Out:=(aB aox (aB aow Out.ret))
def Gg:Fun:=bG Tryz.prog (kp [0,1,3,4]) Tryz.f89.ntmps [.tmp 4] alY
theorem azK(x0 x1:V)(h:Hp):Gg [x0,x1] h=aT Tryz.prog [.tmp 4] (alY (ss 1 x1 (ss 0 x0 T.nil)) h):=by kernel_rfl
theorem acv:aJ Tryz.prog aN 89 Gg:=prX aP [] [] (aW vW bH) Tryz.func89
def afV:=rC 4 (.bool false)
def afU(fr:F)(h:Hp):Out:=
 gtO (ge 0 fr) fun a=>gtO (ge 1 fr) fun b=>aA (Gg [a,b] (aH 0 h)) fun c d=>
 gtO (ge 0 fr) fun i=>aA (aK i d) fun j _=>
 aA (aC 10 j d) fun m _=>
 aA (aF m d) fun n _=>chk (fun h=>aF m h) n (
 aA (bU 6 n c d) fun o _=>
 aA (aC 4 o d) fun p _=>
 aA (aF p d) fun q _=>
 gtO (ge 0 fr) fun r=>aA (aK r d) fun s _=>
 aA (aC 0 s d) fun t _=>
 aA (aC 5 t d) fun u _=>
 aA (aF u d) fun v _=>chk (fun h=>aF u h) v (
 aA (aI .gtr .none q v d) fun w _=>
 Out.nor (ss 4 w fr) d) 1 [(aH 0 h)]) 1 [(aH 0 h)]
def ab9:F→Hp→Out:=(aB afV (aB afU Out.ret))
def JG:Fun:=bG Tryz.prog (kp [0,1,4]) Tryz.f47.ntmps [.tmp 4] ab9
theorem atl(x0 x1:V)(h:Hp):JG [x0,x1] h=aT Tryz.prog [.tmp 4] (ab9 (ss 1 x1 (ss 0 x0 T.nil)) h):=by kernel_rfl
theorem aD3:aJ Tryz.prog aN 47 JG:=prX aP [] [(1,[0,1,3,7,0,0,48,127,255,511,0,1024,3072,7168,15360,32767,65535],fO [64,80,98,0,16,32,52,112,128,147,160,176,192,208,228,240,256])] (aW acv bH) Tryz.func47
def ZO:=rC 3 (.bool false)
def ZN(fr:F)(h:Hp):Out:=
 gtO (ge 1 fr) fun a=>aA (aF a h) fun b c=>
 gtO (ge 0 fr) fun d=>aA (Gg [b,d] c) fun i j=>
 aA (aI .lss .none i (.int .i64 0) j) fun m n=>
 Out.nor (ss 3 m fr) n
def VW:F→Hp→Out:=(aB ZO (aB ZN Out.ret))
def CX:Fun:=bG Tryz.prog (kp [0,1,3]) Tryz.f102.ntmps [.tmp 3] VW
theorem apr(x0 x1:V)(h:Hp):CX [x0,x1] h=aT Tryz.prog [.tmp 3] (VW (ss 1 x1 (ss 0 x0 T.nil)) h):=by kernel_rfl
theorem ayi:aJ Tryz.prog aN 102 CX:=prX aP [] [] (aW acv bH) Tryz.func102
def qh:FuncId→Option Fun:=kZ [(47,JG),(102,CX)]
def JY:=rC 4 (.int .i64 0)
def JX(fr:F)(h:Hp):Out:=
 gtO (ge 0 fr) fun a=>aA (aY 2 a h) fun b c=>
 Out.nor (ss 8 (.int .i64 0) (ss 7 b fr)) c
def JW:=r2 9 8 7 fun a b h=>aI .lss .none a b h
def JV:=rM 5 8
def JU(fr:F)(h:Hp):Out:=
 gtO (ge 1 fr) fun a=>gtO (ge 0 fr) fun b=>gtO (ge 5 fr) fun c=>aA (bU 1 b c h) fun d i=>
 aA (aF d i) fun j m=>
 aA (dX qh a [j] m) fun n o=>
 Out.nor (ss 16 n fr) o
def JS:=rM 4 5
def JR:=r1 8 8 fun a h=>aI .add .none a (.int .i64 1) h
def JQ:=rC 4 (.int .i64 (-1))
def Kt:F→Hp→Out:=(aB JW (aB (aV (.tmp 9) Out.nor (Out.ex 0)) (aB (bP 1 (aB JV (aB JU (aV (.tmp 16) (aB JS Out.ret) Out.nor)))) JR)))
def vU:F→Hp→Out:=(aB JY (aB (aB JX (bP 0 (dI Kt lf))) (aB JQ Out.ret)))
def vX:Fun:=bG Tryz.prog (kp [0,1,4,5,7,8,9,16]) Tryz.f103.ntmps [.tmp 4] vU
theorem acK(x0 x1:V)(h:Hp):vX [x0,x1] h=aT Tryz.prog [.tmp 4] (vU (ss 1 x1 (ss 0 x0 T.nil)) h):=by kernel_rfl
theorem aik:aJ Tryz.prog aN 103 vX:=prX aP [] [] (aW aD3 (aW ayi bH)) Tryz.func103
def EH:=rC 4 (.bool false)
def EG(fr:F)(h:Hp):Out:=
 gtO (ge 0 fr) fun a=>gtO (ge 1 fr) fun b=>aA (vX [a,b] h) fun c d=>
 aA (aI .geq .none c (.int .i64 0) d) fun i j=>
 Out.nor (ss 4 i fr) j
def yt:F→Hp→Out:=(aB EH (aB EG Out.ret))
def jm:Fun:=bG Tryz.prog (kp [0,1,4]) Tryz.f46.ntmps [.tmp 4] yt
theorem WB(x0 x1:V)(h:Hp):jm [x0,x1] h=aT Tryz.prog [.tmp 4] (yt (ss 1 x1 (ss 0 x0 T.nil)) h):=by kernel_rfl
theorem JA:aJ Tryz.prog aN 46 jm:=prX aP [] [] (aW aik bH) Tryz.func46
def EJ:=rC 4 (.bool false)
def EI(fr:F)(h:Hp):Out:=
 gtO (ge 0 fr) fun a=>gtO (ge 1 fr) fun b=>aA (kE [a,b] h) fun c d=>
 aA (aI .geq .none c (.int .i64 0) d) fun i j=>
 Out.nor (ss 4 i fr) j
def yu:F→Hp→Out:=(aB EJ (aB EI Out.ret))
def mF:Fun:=bG Tryz.prog (kp [0,1,4]) Tryz.f190.ntmps [.tmp 4] yu
theorem WC(x0 x1:V)(h:Hp):mF [x0,x1] h=aT Tryz.prog [.tmp 4] (yu (ss 1 x1 (ss 0 x0 T.nil)) h):=by kernel_rfl
theorem acy:aJ Tryz.prog aN 190 mF:=prX aP [] [] (aW vW bH) Tryz.func190
def agw:=rC 2 (.bool false)
def agv(fr:F)(h:Hp):Out:=
 gtO (ge 0 fr) fun a=>aA (wZ [a] h) fun b c=>
 ifB b (aA (aY 1 a c) fun d i=>
 aA (aI .leq .none d (.int .i64 64) i) fun j m=>
 ifB j (aA (zh [a] m) fun n o=>
 aA (aI .eql .none n a o) fun p q=>
 Out.nor (ss 2 p fr) q) (Out.nor (ss 2 (.bool false) fr) m)) (Out.nor (ss 2 (.bool false) fr) c)
def acn:F→Hp→Out:=(aB agw (aB agv Out.ret))
def TL:Fun:=bG Tryz.prog (kp [0,2]) Tryz.f80.ntmps [.tmp 2] acn
theorem atu(x0:V)(h:Hp):TL [x0] h=aT Tryz.prog [.tmp 2] (acn (ss 0 x0 T.nil) h):=by kernel_rfl
theorem aD8:aJ Tryz.prog aN 80 TL:=prX aP [] [] (aW asK (aW ahh bH)) Tryz.func80
def agy:=rC 2 (.bool false)
def agx(fr:F)(h:Hp):Out:=
 gtO (ge 0 fr) fun a=>aA (TL [a] h) fun b c=>
 aA (oUn .not b c) fun d i=>
 Out.nor (ss 2 d fr) i
def aco:F→Hp→Out:=(aB agy (aB agx Out.ret))
def TM:Fun:=bG Tryz.prog (kp [0,2]) Tryz.f79.ntmps [.tmp 2] aco
theorem atv(x0:V)(h:Hp):TM [x0] h=aT Tryz.prog [.tmp 2] (aco (ss 0 x0 T.nil) h):=by kernel_rfl
theorem aD9:aJ Tryz.prog aN 79 TM:=prX aP [] [] (aW aD8 bH) Tryz.func79
def qx:FuncId→Option Fun:=kZ [(79,TM)]
def EF:=rC 4 (.int .i64 0)
def ED(fr:F)(h:Hp):Out:=
 gtO (ge 0 fr) fun a=>aA (aY 2 a h) fun b c=>
 Out.nor (ss 8 (.int .i64 0) (ss 7 b fr)) c
def EC:=r2 9 8 7 fun a b h=>aI .lss .none a b h
def Ez:=rM 5 8
def Ey(fr:F)(h:Hp):Out:=
 gtO (ge 1 fr) fun a=>gtO (ge 0 fr) fun b=>gtO (ge 5 fr) fun c=>aA (bU 1 b c h) fun d i=>
 aA (aF d i) fun j m=>
 aA (dX qx a [j] m) fun n o=>
 Out.nor (ss 16 n fr) o
def Ew:=rM 4 5
def Eu:=r1 8 8 fun a h=>aI .add .none a (.int .i64 1) h
def Et:=rC 4 (.int .i64 (-1))
def EP:F→Hp→Out:=(aB EC (aB (aV (.tmp 9) Out.nor (Out.ex 0)) (aB (bP 1 (aB Ez (aB Ey (aV (.tmp 16) (aB Ew Out.ret) Out.nor)))) Eu)))
def qy:F→Hp→Out:=(aB EF (aB (aB ED (bP 0 (dI EP lf))) (aB Et Out.ret)))
def qB:Fun:=bG Tryz.prog (kp [0,1,4,5,7,8,9,16]) Tryz.f163.ntmps [.tmp 4] qy
theorem WA(x0 x1:V)(h:Hp):qB [x0,x1] h=aT Tryz.prog [.tmp 4] (qy (ss 1 x1 (ss 0 x0 T.nil)) h):=by kernel_rfl
theorem acw:aJ Tryz.prog aN 163 qB:=prX aP [] [] (aW aD9 bH) Tryz.func163
def Aj:=rC 4 (.bool false)
def Ai(fr:F)(h:Hp):Out:=
 gtO (ge 0 fr) fun a=>gtO (ge 1 fr) fun b=>aA (qB [a,b] h) fun c d=>
 aA (aI .geq .none c (.int .i64 0) d) fun i j=>
 Out.nor (ss 4 i fr) j
def sO:F→Hp→Out:=(aB Aj (aB Ai Out.ret))
def nG:Fun:=bG Tryz.prog (kp [0,1,4]) Tryz.f78.ntmps [.tmp 4] sO
theorem Rl(x0 x1:V)(h:Hp):nG [x0,x1] h=aT Tryz.prog [.tmp 4] (sO (ss 1 x1 (ss 0 x0 T.nil)) h):=by kernel_rfl
theorem Wy:aJ Tryz.prog aN 78 nG:=prX aP [] [] (aW acw bH) Tryz.func78
def agk:=rC 2 (.int .i64 0)
def agj:=r1 4 0 fun a h=>aI .geq .none a (.int .u64 4294967296) h
def agi:=r1 8 0 fun a h=>aI .geq .none a (.int .u64 65536) h
def agh:=r1 14 0 fun a h=>aI .geq .none a (.int .u64 256) h
def adG(fr:F)(h:Hp):Out:=
 gtO (ge 2 fr) fun a=>gtO (ge 0 fr) fun b=>aA (kU .u8 b h) fun c d=>
 aA (dG (.str [0,1,2,2,3,3,3,3,4,4,4,4,4,4,4,4,5,5,5,5,5,5,5,5,5,5,5,5,5,5,5,5,6,6,6,6,6,6,6,6,6,6,6,6,6,6,6,6,6,6,6,6,6,6,6,6,6,6,6,6,6,6,6,6,7,7,7,7,7,7,7,7,7,7,7,7,7,7,7,7,7,7,7,7,7,7,7,7,7,7,7,7,7,7,7,7,7,7,7,7,7,7,7,7,7,7,7,7,7,7,7,7,7,7,7,7,7,7,7,7,7,7,7,7,7,7,7,7,8,8,8,8,8,8,8,8,8,8,8,8,8,8,8,8,8,8,8,8,8,8,8,8,8,8,8,8,8,8,8,8,8,8,8,8,8,8,8,8,8,8,8,8,8,8,8,8,8,8,8,8,8,8,8,8,8,8,8,8,8,8,8,8,8,8,8,8,8,8,8,8,8,8,8,8,8,8,8,8,8,8,8,8,8,8,8,8,8,8,8,8,8,8,8,8,8,8,8,8,8,8,8,8,8,8,8,8,8,8,8,8,8,8,8,8,8,8,8,8,8,8,8,8,8,8,8,8]) c d) fun i j=>
 aA (kU .i64 i j) fun m n=>
 aA (aI .add .none a m n) fun o p=>
 Out.nor (ss 2 o fr) p
def Tm:F→Hp→Out:=(aB agk (aB (aB agj (aV (.tmp 4) zz Out.nor)) (aB (aB agi (aV (.tmp 8) zz Out.nor)) (aB (aB agh (aV (.tmp 14) zz Out.nor)) (aB adG Out.ret)))))
def TG:Fun:=bG Tryz.prog (kp [0,2,4,8,14]) Tryz.f269.ntmps [.tmp 2] Tm
theorem atq(x0:V)(h:Hp):TG [x0] h=aT Tryz.prog [.tmp 2] (Tm (ss 0 x0 T.nil) h):=by kernel_rfl
theorem aD5:aJ Tryz.prog aN 269 TG:=prX aP [2,3,5,6,8,9] [] bH Tryz.func269
def aoB:=rC 2 (.int .i64 0)
def aoA:=r1 2 0 fun a h=>TG [a] h
def al0:F→Hp→Out:=(aB aoB (aB (aV (.const (.bool false)) zz Out.nor) (aB aoA Out.ret)))
def Nj:Fun:=bG Tryz.prog (kp [0,2]) Tryz.f165.ntmps [.tmp 2] al0
theorem azM(x0:V)(h:Hp):Nj [x0] h=aT Tryz.prog [.tmp 2] (al0 (ss 0 x0 T.nil) h):=by kernel_rfl
theorem al7:aJ Tryz.prog aN 165 Nj:=prX aP [1] [] (aW aD5 bH) Tryz.func165
def Jq:=rC 2 (.bool false)
def Jp:=r1 2 0 fun a h=>aI .neq .none a a h
def FB:F→Hp→Out:=(aB Jq (aB Jp Out.ret))
def mZ:Fun:=bG Tryz.prog (kp [0,2]) Tryz.f364.ntmps [.tmp 2] FB
theorem Wu(x0:V)(h:Hp):mZ [x0] h=aT Tryz.prog [.tmp 2] (FB (ss 0 x0 T.nil) h):=by kernel_rfl
theorem aea:aJ Tryz.prog aN 364 mZ:=prX aP [] [] bH Tryz.func364
def aae:=rC 4 (.bool false)
def aad(fr:F)(h:Hp):Out:=
 gtO (ge 0 fr) fun a=>aA (mZ [a] h) fun b c=>
 ifB b (gtO (ge 1 fr) fun d=>aA (mZ [d] c) fun i j=>
 aA (oUn .not i j) fun m n=>
 ifB m (Out.nor (ss 4 (.bool true) fr) n) (aA (aI .lss .none a d n) fun o p=>
 Out.nor (ss 4 o fr) p)) (gtO (ge 1 fr) fun d=>aA (aI .lss .none a d c) fun o p=>
 Out.nor (ss 4 o fr) p)
def VZ:F→Hp→Out:=(aB aae (aB aad Out.ret))
def JK:Fun:=bG Tryz.prog (kp [0,1,4]) Tryz.f276.ntmps [.tmp 4] VZ
theorem apv(x0 x1:V)(h:Hp):JK [x0,x1] h=aT Tryz.prog [.tmp 4] (VZ (ss 1 x1 (ss 0 x0 T.nil)) h):=by kernel_rfl
theorem ayo:aJ Tryz.prog aN 276 JK:=prX aP [] [] (aW aea bH) Tryz.func276
def jD:=r1 6 1 fun a h=>aI .add .none a (.int .i64 1) h
def iK:=r2 12 6 2 fun a b h=>aI .lss .none a b h
def um:=rM 7 6
def jC(fr:F)(h:Hp):Out:=
 gtO (ge 7 fr) fun a=>gtO (ge 1 fr) fun b=>aA (aI .gtr .none a b (aH 0 h)) fun c _=>
 ifB c (gtO (ge 0 fr) fun d=>gtO (ge 7 fr) fun i=>aA (bU 1 d i (aH 0 h)) fun j _=>
 aA (aF j (aH 0 h)) fun m _=>
 gtO (ge 0 fr) fun n=>gtO (ge 7 fr) fun o=>aA (aI .sub .none o (.int .i64 1) (aH 0 h)) fun p _=>
 aA (bU 1 n p (aH 0 h)) fun q _=>
 aA (aF q (aH 0 h)) fun r _=>
 aA (JK [m,r] (aH 0 h)) fun s t=>
 Out.nor (ss 30 s fr) t) (Out.nor (ss 30 (.bool false) fr) (aH 0 h))
def uh(fr:F)(h:Hp):Out:=
 gtO (ge 0 fr) fun a=>gtO (ge 7 fr) fun b=>gtO (ge 0 fr) fun c=>gtO (ge 7 fr) fun d=>aA (aI .sub .none d (.int .i64 1) (aH 0 h)) fun i _=>
 aA (bU 1 c i (aH 0 h)) fun j _=>
 aA (aF j (aH 0 h)) fun m _=>
 gtO (ge 0 fr) fun n=>gtO (ge 7 fr) fun o=>aA (bU 1 n o (aH 0 h)) fun p _=>
 aA (aF p (aH 0 h)) fun q _=>
 aA (bU 1 a b (aH 0 h)) fun r _=>
 aA (aO 1 r m (aH 0 h)) fun _ s=>
 gtO (ge 0 fr) fun t=>gtO (ge 7 fr) fun u=>aA (aI .sub .none u (.int .i64 1) s) fun v _=>
 aA (bU 1 t v s) fun w _=>
 aA (aO 1 w q s) fun _ x=>
 Out.nor fr x
def uj:=r1 7 7 fun a h=>aI .sub .none a (.int .i64 1) h
def lW:=r1 6 6 fun a h=>aI .add .none a (.int .i64 1) h
def jF:F→Hp→Out:=(aB (aB jC (aV (.tmp 30) Out.nor (Out.ex 2))) (aB (bP 3 uh) uj))
def iL:F→Hp→Out:=(aB (aB iK (aV (.tmp 12) Out.nor (Out.ex 0))) (aB (bP 1 (aB um (bP 2 (dI jF lf)))) lW))
def fU:F→Hp→Out:=(aB jD (bP 0 (dI iL lf)))
def gZ:Fun:=bG Tryz.prog (kp [0,1,2,6,7,12,30]) Tryz.f270.ntmps [] fU
theorem sH(x0 x1 x2:V)(h:Hp):gZ [x0,x1,x2] h=aT Tryz.prog [] (fU (ss 2 x2 (ss 1 x1 (ss 0 x0 T.nil))) h):=by kernel_rfl
theorem MX:aJ Tryz.prog aN 270 gZ:=prX aP [] [(4,[0,0,3,7,15,15,63,127,15,15,527,1807,3855,8191,16383],fO [0,16,32,48,64,80,96,115,128,144,160,176,195,210,224]),(6,[0,0,0,0,8,0,0,64,224,480,0,0,3072,7168,16355,32739,65535,131071],fO [0,16,80,96,112,128,147,160,176,192,211,224,242,32,48,64,256,274])] (aW ayo bH) Tryz.func270
def Px:=rC 2 (.bool false)
def Pv:=r1 2 0 fun a h=>aI .neq .none a a h
def Gf:F→Hp→Out:=(aB Px (aB Pv Out.ret))
def rU:Fun:=bG Tryz.prog (kp [0,2]) Tryz.f360.ntmps [.tmp 2] Gf
theorem aev(x0:V)(h:Hp):rU [x0] h=aT Tryz.prog [.tmp 2] (Gf (ss 0 x0 T.nil) h):=by kernel_rfl
theorem al9:aJ Tryz.prog aN 360 rU:=prX aP [] [] bH Tryz.func360
def RP:=rC 4 (.bool false)
def RN(fr:F)(h:Hp):Out:=
 gtO (ge 0 fr) fun a=>aA (rU [a] h) fun b c=>
 ifB b (gtO (ge 1 fr) fun d=>aA (rU [d] c) fun i j=>
 aA (oUn .not i j) fun m n=>
 ifB m (Out.nor (ss 4 (.bool true) fr) n) (aA (aI .lss .none a d n) fun o p=>
 Out.nor (ss 4 o fr) p)) (gtO (ge 1 fr) fun d=>aA (aI .lss .none a d c) fun o p=>
 Out.nor (ss 4 o fr) p)
def Jw:F→Hp→Out:=(aB RP (aB RN Out.ret))
def AL:Fun:=bG Tryz.prog (kp [0,1,4]) Tryz.f265.ntmps [.tmp 4] Jw
theorem aho(x0 x1:V)(h:Hp):AL [x0,x1] h=aT Tryz.prog [.tmp 4] (Jw (ss 1 x1 (ss 0 x0 T.nil)) h):=by kernel_rfl
theorem apd:aJ Tryz.prog aN 265 AL:=prX aP [] [] (aW al9 bH) Tryz.func265
def jd:=r1 6 1 fun a h=>aI .add .none a (.int .i64 1) h
def gV:=r2 12 6 2 fun a b h=>aI .lss .none a b h
def qH:=rM 7 6
def jc(fr:F)(h:Hp):Out:=
 gtO (ge 7 fr) fun a=>gtO (ge 1 fr) fun b=>aA (aI .gtr .none a b (aH 0 h)) fun c _=>
 ifB c (gtO (ge 0 fr) fun d=>gtO (ge 7 fr) fun i=>aA (bU 1 d i (aH 0 h)) fun j _=>
 aA (aF j (aH 0 h)) fun m _=>
 gtO (ge 0 fr) fun n=>gtO (ge 7 fr) fun o=>aA (aI .sub .none o (.int .i64 1) (aH 0 h)) fun p _=>
 aA (bU 1 n p (aH 0 h)) fun q _=>
 aA (aF q (aH 0 h)) fun r _=>
 aA (AL [m,r] (aH 0 h)) fun s t=>
 Out.nor (ss 30 s fr) t) (Out.nor (ss 30 (.bool false) fr) (aH 0 h))
def qF(fr:F)(h:Hp):Out:=
 gtO (ge 0 fr) fun a=>gtO (ge 7 fr) fun b=>gtO (ge 0 fr) fun c=>gtO (ge 7 fr) fun d=>aA (aI .sub .none d (.int .i64 1) (aH 0 h)) fun i _=>
 aA (bU 1 c i (aH 0 h)) fun j _=>
 aA (aF j (aH 0 h)) fun m _=>
 gtO (ge 0 fr) fun n=>gtO (ge 7 fr) fun o=>aA (bU 1 n o (aH 0 h)) fun p _=>
 aA (aF p (aH 0 h)) fun q _=>
 aA (bU 1 a b (aH 0 h)) fun r _=>
 aA (aO 1 r m (aH 0 h)) fun _ s=>
 gtO (ge 0 fr) fun t=>gtO (ge 7 fr) fun u=>aA (aI .sub .none u (.int .i64 1) s) fun v _=>
 aA (bU 1 t v s) fun w _=>
 aA (aO 1 w q s) fun _ x=>
 Out.nor fr x
def qG:=r1 7 7 fun a h=>aI .sub .none a (.int .i64 1) h
def kN:=r1 6 6 fun a h=>aI .add .none a (.int .i64 1) h
def je:F→Hp→Out:=(aB (aB jc (aV (.tmp 30) Out.nor (Out.ex 2))) (aB (bP 3 qF) qG))
def gW:F→Hp→Out:=(aB (aB gV (aV (.tmp 12) Out.nor (Out.ex 0))) (aB (bP 1 (aB qH (bP 2 (dI je lf)))) kN))
def fJ:F→Hp→Out:=(aB jd (bP 0 (dI gW lf)))
def fZ:Fun:=bG Tryz.prog (kp [0,1,2,6,7,12,30]) Tryz.f259.ntmps [] fJ
theorem qj(x0 x1 x2:V)(h:Hp):fZ [x0,x1,x2] h=aT Tryz.prog [] (fJ (ss 2 x2 (ss 1 x1 (ss 0 x0 T.nil))) h):=by kernel_rfl
theorem Ht:aJ Tryz.prog aN 259 fZ:=prX aP [] [(4,[0,0,3,7,15,15,63,127,15,15,527,1807,3855,8191,16383],fO [0,16,32,48,64,80,96,115,128,144,160,176,195,210,224]),(6,[0,0,0,0,8,0,0,64,224,480,0,0,3072,7168,16355,32739,65535,131071],fO [0,16,80,96,112,128,147,160,176,192,211,224,242,32,48,64,256,274])] (aW apd bH) Tryz.func259
def BO:=rC 8 (.bool true)
def BN:=rC 9 (.bool true)
def BM:=r2 10 2 1 fun a b h=>aI .sub .none a b h
def BL:=r1 23 10 fun a h=>aI .leq .none a (.int .i64 12) h
def BK(fr:F)(h:Hp):Out:=
 gtO (ge 0 fr) fun a=>gtO (ge 1 fr) fun b=>gtO (ge 2 fr) fun c=>aA (gZ [a,b,c] h) fun d i=>
 Out.nor fr i
def CV:F→Hp→Out:=(bP 1 (aB BM (aB (aB BL (aV (.tmp 23) (aB BK Out.ret) Out.nor)) zz)))
def oz:F→Hp→Out:=(aB BO (aB BN (bP 0 (dI CV lf))))
def oC:Fun:=bG Tryz.prog (kp [0,1,2,3,8,9,10,11,12,13,14,15,16,17,18,23,29,35,50,68,72,87,113]) Tryz.f167.ntmps [] oz
theorem TF(x0 x1 x2 x3:V)(h:Hp):oC [x0,x1,x2,x3] h=aT Tryz.prog [] (oz (ss 3 x3 (ss 2 x2 (ss 1 x1 (ss 0 x0 T.nil)))) h):=by kernel_rfl
theorem YP:aJ Tryz.prog aN 167 oC:=prX aP [5,6,7,8,9,10,11,12,13,14,15,16,17,18,19,20,21,22,23,24,25,26,27,28,29,30] [] (aW MX bH) Tryz.func167
def wS:=rC 8 (.bool true)
def wR:=rC 9 (.bool true)
def wQ:=r2 10 2 1 fun a b h=>aI .sub .none a b h
def wP:=r1 23 10 fun a h=>aI .leq .none a (.int .i64 12) h
def wO(fr:F)(h:Hp):Out:=
 gtO (ge 0 fr) fun a=>gtO (ge 1 fr) fun b=>gtO (ge 2 fr) fun c=>aA (fZ [a,b,c] h) fun d i=>
 Out.nor fr i
def wY:F→Hp→Out:=(bP 1 (aB wQ (aB (aB wP (aV (.tmp 23) (aB wO Out.ret) Out.nor)) zz)))
def lG:F→Hp→Out:=(aB wS (aB wR (bP 0 (dI wY lf))))
def lH:Fun:=bG Tryz.prog (kp [0,1,2,3,8,9,10,11,12,13,14,15,16,17,18,23,29,35,50,68,72,87,113]) Tryz.f164.ntmps [] lG
theorem Nh(x0 x1 x2 x3:V)(h:Hp):lH [x0,x1,x2,x3] h=aT Tryz.prog [] (lG (ss 3 x3 (ss 2 x2 (ss 1 x1 (ss 0 x0 T.nil)))) h):=by kernel_rfl
theorem Tz:aJ Tryz.prog aN 164 lH:=prX aP [5,6,7,8,9,10,11,12,13,14,15,16,17,18,19,20,21,22,23,24,25,26,27,28,29,30] [] (aW Ht bH) Tryz.func164
def Z8:=r1 2 0 fun a h=>aY 2 a h
def Z7(fr:F)(h:Hp):Out:=
 gtO (ge 0 fr) fun a=>gtO (ge 2 fr) fun b=>aA (kU .u64 b h) fun c d=>
 aA (Nj [c] d) fun i j=>
 aA (oC [a,(.int .i64 0),b,i] j) fun m n=>
 Out.nor fr n
def VY:F→Hp→Out:=(aB Z8 Z7)
def oN:Fun:=bG Tryz.prog (kp [0,2]) Tryz.f87.ntmps [] VY
theorem apu(x0:V)(h:Hp):oN [x0] h=aT Tryz.prog [] (VY (ss 0 x0 T.nil) h):=by kernel_rfl
theorem ahc:aJ Tryz.prog aN 87 oN:=prX aP [] [] (aW al7 (aW YP bH)) Tryz.func87
def Ro:=r1 2 0 fun a h=>aY 2 a h
def Rn(fr:F)(h:Hp):Out:=
 gtO (ge 0 fr) fun a=>gtO (ge 2 fr) fun b=>aA (kU .u64 b h) fun c d=>
 aA (Nj [c] d) fun i j=>
 aA (lH [a,(.int .i64 0),b,i] j) fun m n=>
 Out.nor fr n
def Jt:F→Hp→Out:=(aB Ro Rn)
def mr:Fun:=bG Tryz.prog (kp [0,2]) Tryz.f82.ntmps [] Jt
theorem ahj(x0:V)(h:Hp):mr [x0] h=aT Tryz.prog [] (Jt (ss 0 x0 T.nil) h):=by kernel_rfl
theorem apa:aJ Tryz.prog aN 82 mr:=prX aP [] [] (aW al7 (aW Tz bH)) Tryz.func82
def RY:=rC 4 (.int .i64 0)
def RX:=r1 5 0 fun a h=>mZ [a] h
def RV:=r1 6 1 fun a h=>mZ [a] h
def RU:=rM 11 5
def RS:=rM 13 6
def RQ:=r2 16 0 1 fun a b h=>aI .lss .none a b h
def Pz:=r2 19 0 1 fun a b h=>aI .gtr .none a b h
def Py:=rC 4 (.int .i64 1)
def Jy:F→Hp→Out:=(aB RY (aB RX (aB RV (aB (aB RU (aV (.tmp 11) zz Out.nor)) (aB (aB RS (aV (.tmp 13) zz Out.nor)) (aB (aB RQ (aV (.tmp 16) zz Out.nor)) (aB (aB Pz (aV (.tmp 19) (aB Py Out.ret) Out.nor)) zz)))))))
def AO:Fun:=bG Tryz.prog (kp [0,1,4,5,6,11,12,13,16,19]) Tryz.f285.ntmps [.tmp 4] Jy
theorem ahp(x0 x1:V)(h:Hp):AO [x0,x1] h=aT Tryz.prog [.tmp 4] (Jy (ss 1 x1 (ss 0 x0 T.nil)) h):=by kernel_rfl
theorem ape:aJ Tryz.prog aN 285 AO:=prX aP [4,5,6,8,10,13] [] (aW aea bH) Tryz.func285
def ZC(fr:F)(h:Hp):Out:=
 gtO (ge 0 fr) fun a=>aA (fV 250 a h) fun b c=>
 gtO (ge 1 (ss 2 b fr)) fun d=>aA (fV 250 d c) fun i j=>
 Out.nor (ss 4 (.int .i64 0) (ss 3 i (ss 2 b fr))) j
def ZB(fr:F)(h:Hp):Out:=
 gtO (ge 2 fr) fun a=>aA (aC 0 a h) fun b c=>
 aA (aF b c) fun d i=>
 gtO (ge 3 fr) fun j=>aA (aC 0 j i) fun m n=>
 aA (aF m n) fun o p=>
 aA (AO [d,o] p) fun q r=>
 Out.nor (ss 4 q fr) r
def VS:F→Hp→Out:=(aB ZC (aB ZB Out.ret))
def rO:Fun:=bG Tryz.prog (kp [0,1,2,3,4]) Tryz.f284.ntmps [.tmp 4] VS
theorem apm(x0 x1:V)(h:Hp):rO [x0,x1] h=aT Tryz.prog [.tmp 4] (VS (ss 1 x1 (ss 0 x0 T.nil)) h):=by kernel_rfl
theorem V5:aJ Tryz.prog aN 284 rO:=prX aP [] [] (aW ape bH) Tryz.func284
def iE:FuncId→Option Fun:=kZ [(284,rO)]
def zY(fr:F)(h:Hp):Out:=
 Out.nor (ss 11 (.int .i64 0) (ss 10 (.int .i64 0) fr)) h
def zX(fr:F)(h:Hp):Out:=
 gtO (ge 4 fr) fun a=>gtO (ge 0 fr) fun b=>gtO (ge 2 fr) fun c=>aA (bU 9 b c (aH 0 h)) fun d _=>
 aA (bW 9 d (aH 0 h)) fun i _=>
 gtO (ge 0 fr) fun j=>gtO (ge 1 fr) fun m=>aA (bU 9 j m (aH 0 h)) fun n _=>
 aA (bW 9 n (aH 0 h)) fun o _=>
 aA (dX iE a [i,o] (aH 0 h)) fun p q=>
 aA (aI .lss .none p (.int .i64 0) q) fun r _=>
 Out.nor (ss 22 r fr) q
def zW(fr:F)(h:Hp):Out:=
 gtO (ge 1 fr) fun a=>gtO (ge 2 fr) fun b=>Out.nor (ss 11 b (ss 10 a fr)) h
def sK:F→Hp→Out:=(aB zY (aB (aB zX (aV (.tmp 22) zz Out.nor)) (aB zW Out.ret)))
def jh:Fun:=bG Tryz.prog (kp [0,1,2,3,4,10,11,22]) Tryz.f527.ntmps [.tmp 10,.tmp 11] sK
theorem Rj(x0 x1 x2 x3 x4:V)(h:Hp):jh [x0,x1,x2,x3,x4] h=aT Tryz.prog [.tmp 10,.tmp 11] (sK (ss 4 x4 (ss 3 x3 (ss 2 x2 (ss 1 x1 (ss 0 x0 T.nil))))) h):=by kernel_rfl
theorem Wv:aJ Tryz.prog aN 527 jh:=prX aP [2,3] [(1,[0,0,0,6,14,0,0,96,224,511,1023],fO [0,16,32,48,67,80,96,112,131,146,160])] (aW V5 bH) Tryz.func527
def Ae:=rC 12 (.int .i64 0)
def Ad(fr:F)(h:Hp):Out:=
 gtO (ge 0 fr) fun a=>gtO (ge 1 fr) fun b=>gtO (ge 2 fr) fun c=>gtO (ge 4 fr) fun d=>gtO (ge 5 fr) fun i=>aA (jh [a,b,c,d,i] h) fun j m=>
 aA (bJ 0 j m) fun n o=>
 aA (bJ 1 j o) fun p q=>
 Out.nor (ss 2 p (ss 1 n fr)) q
def Ac(fr:F)(h:Hp):Out:=
 gtO (ge 0 fr) fun a=>gtO (ge 2 fr) fun b=>gtO (ge 3 fr) fun c=>gtO (ge 4 fr) fun d=>gtO (ge 5 fr) fun i=>aA (jh [a,b,c,d,i] h) fun j m=>
 aA (bJ 0 j m) fun n o=>
 aA (bJ 1 j o) fun p q=>
 Out.nor (ss 3 p (ss 2 n fr)) q
def Aa(fr:F)(h:Hp):Out:=
 gtO (ge 0 fr) fun a=>gtO (ge 1 fr) fun b=>gtO (ge 2 fr) fun c=>gtO (ge 4 fr) fun d=>gtO (ge 5 fr) fun i=>aA (jh [a,b,c,d,i] h) fun j m=>
 aA (bJ 0 j m) fun n o=>
 aA (bJ 1 j o) fun p q=>
 Out.nor (ss 2 p (ss 1 n fr)) q
def zZ:=rM 12 2
def sN:F→Hp→Out:=(aB Ae (aB Ad (aB Ac (aB Aa (aB zZ Out.ret)))))
def nD:Fun:=bG Tryz.prog (kp [0,1,2,3,4,5,12]) Tryz.f491.ntmps [.tmp 12] sN
theorem Rk(x0 x1 x2 x3 x4 x5:V)(h:Hp):nD [x0,x1,x2,x3,x4,x5] h=aT Tryz.prog [.tmp 12] (sN (ss 5 x5 (ss 4 x4 (ss 3 x3 (ss 2 x2 (ss 1 x1 (ss 0 x0 T.nil)))))) h):=by kernel_rfl
theorem Wx:aJ Tryz.prog aN 491 nD:=prX aP [] [] (aW Wv bH) Tryz.func491
def uM(fr:F)(h:Hp):Out:=
 Out.nor (ss 9 (.int .i64 0) (ss 8 (.int .i64 0) fr)) h
def uK:=r2 10 2 1 fun a b h=>aI .sub .none a b h
def uJ(fr:F)(h:Hp):Out:=
 aA (fC 3 [(.int .i64 0)] h) fun a b=>
 Out.nor (ss 11 a fr) b
def uI(fr:F)(h:Hp):Out:=
 gtO (ge 1 fr) fun a=>gtO (ge 10 fr) fun b=>aA (aI .quo .none b (.int .i64 4) h) fun c d=>
 aA (aI .mul .none c (.int .i64 1) d) fun i j=>
 aA (aI .add .none a i j) fun m n=>
 Out.nor (ss 12 m fr) n
def uH(fr:F)(h:Hp):Out:=
 gtO (ge 1 fr) fun a=>gtO (ge 10 fr) fun b=>aA (aI .quo .none b (.int .i64 4) h) fun c d=>
 aA (aI .mul .none c (.int .i64 2) d) fun i j=>
 aA (aI .add .none a i j) fun m n=>
 Out.nor (ss 13 m fr) n
def uG(fr:F)(h:Hp):Out:=
 gtO (ge 1 fr) fun a=>gtO (ge 10 fr) fun b=>aA (aI .quo .none b (.int .i64 4) h) fun c d=>
 aA (aI .mul .none c (.int .i64 3) d) fun i j=>
 aA (aI .add .none a i j) fun m n=>
 Out.nor (ss 14 m fr) n
def uF:=r1 34 10 fun a h=>aI .geq .none a (.int .i64 8) h
def uD:=r1 36 10 fun a h=>aI .geq .none a (.int .i64 50) h
def sG(fr:F)(h:Hp):Out:=
 gtO (ge 0 fr) fun a=>gtO (ge 12 fr) fun b=>gtO (ge 13 fr) fun c=>gtO (ge 14 fr) fun d=>gtO (ge 3 fr) fun i=>gtO (ge 11 fr) fun j=>aA (nD [a,b,c,d,j,i] h) fun m n=>
 Out.nor (ss 13 m fr) n
def sF:=r1 55 11 fun a h=>aF a h
def sD:=r1 57 55 fun a h=>aI .eql .none a (.int .i64 0) h
def su(fr:F)(h:Hp):Out:=
 gtO (ge 13 fr) fun a=>Out.nor (ss 9 (.int .i64 1) (ss 8 a fr)) h
def nS:F→Hp→Out:=(aB uM (aB uK (aB uJ (aB uI (aB uH (aB uG (aB (aB uF (aV (.tmp 34) (aB (aB uD (aV (.tmp 36) zz Out.nor)) sG) Out.nor)) (aB sF (bP 0 (aB sD (aV (.tmp 57) (aB su Out.ret) zz)))))))))))
def kC:Fun:=bG Tryz.prog (kp [0,1,2,3,8,9,10,11,12,13,14,34,36,55,57,60]) Tryz.f430.ntmps [.tmp 8,.tmp 9] nS
theorem Hu(x0 x1 x2 x3:V)(h:Hp):kC [x0,x1,x2,x3] h=aT Tryz.prog [.tmp 8,.tmp 9] (nS (ss 3 x3 (ss 2 x2 (ss 1 x1 (ss 0 x0 T.nil)))) h):=by kernel_rfl
theorem MZ:aJ Tryz.prog aN 430 kC:=prX aP [8,9,10,16,17,13] [] (aW Wx bH) Tryz.func430
def jJ:FuncId→Option Fun:=kZ [(284,rO)]
def mX:=rC 8 (.bool false)
def mW:=r1 9 1 fun a h=>aI .add .none a (.int .i64 1) h
def mV:=rC 10 (.int .i64 0)
def mQ:=r1 16 10 fun a h=>aI .lss .none a (.int .i64 5) h
def jo(fr:F)(h:Hp):Out:=
 gtO (ge 9 fr) fun a=>gtO (ge 2 fr) fun b=>aA (aI .lss .none a b (aH 0 h)) fun c _=>
 ifB c (gtO (ge 3 fr) fun d=>gtO (ge 0 fr) fun i=>gtO (ge 9 fr) fun j=>aA (bU 9 i j (aH 0 h)) fun m _=>
 aA (bW 9 m (aH 0 h)) fun n _=>
 gtO (ge 0 fr) fun o=>gtO (ge 9 fr) fun p=>aA (aI .sub .none p (.int .i64 1) (aH 0 h)) fun q _=>
 aA (bU 9 o q (aH 0 h)) fun r _=>
 aA (bW 9 r (aH 0 h)) fun s _=>
 aA (dX jJ d [n,s] (aH 0 h)) fun t u=>
 aA (aI .lss .none t (.int .i64 0) u) fun v _=>
 aA (oUn .not v u) fun w _=>
 Out.nor (ss 36 w fr) u) (Out.nor (ss 36 (.bool false) fr) (aH 0 h))
def mO:=r1 9 9 fun a h=>aI .add .none a (.int .i64 1) h
def mM:=r2 41 9 2 fun a b h=>aI .eql .none a b h
def mJ:=rC 8 (.bool true)
def mP:=r1 10 10 fun a h=>aI .add .none a (.int .i64 1) h
def jq:F→Hp→Out:=(aB (aB jo (aV (.tmp 36) Out.nor (Out.ex 2))) (bP 3 mO))
def acB:F→Hp→Out:=zz
def acA:F→Hp→Out:=zz
def mY:F→Hp→Out:=(aB (aB mQ (aV (.tmp 16) Out.nor (Out.ex 0))) (aB (bP 1 (aB (bP 2 (dI jq lf)) (aB (aB mM (aV (.tmp 41) (aB mJ Out.ret) Out.nor)) zz))) mP))
def iy:F→Hp→Out:=(aB mX (aB mW (aB (aB mV (bP 0 (dI mY lf))) zz)))
def iC:Fun:=bG Tryz.prog (kp [0,1,2,3,8,9,10,11,12,16,36,41,45,65,69,84,104,109,124]) Tryz.f432.ntmps [.tmp 8] iy
theorem yx(x0 x1 x2 x3:V)(h:Hp):iC [x0,x1,x2,x3] h=aT Tryz.prog [.tmp 8] (iy (ss 3 x3 (ss 2 x2 (ss 1 x1 (ss 0 x0 T.nil)))) h):=by kernel_rfl
theorem AQ:aJ Tryz.prog aN 432 iC:=prX aP [9,10,11,12,13,14,16,17,15,18,19,20,22,23,21,24] [(5,[0,0,3,7,15,15,15,111,239,15,15,1039,3599,7695,16383,32767,65535,131071],fO [0,16,32,48,64,80,96,112,131,144,160,176,192,211,226,240,256,272])] (aW V5 bH) Tryz.func432
def lY:FuncId→Option Fun:=kZ [(284,rO)]
def qX:=r1 8 1 fun a h=>aI .add .none a (.int .i64 1) h
def kW:=r2 14 8 2 fun a b h=>aI .lss .none a b h
def qW:=rM 9 8
def qV(fr:F)(h:Hp):Out:=
 gtO (ge 9 fr) fun a=>gtO (ge 1 fr) fun b=>aA (aI .gtr .none a b (aH 0 h)) fun c _=>
 ifB c (gtO (ge 3 fr) fun d=>gtO (ge 0 fr) fun i=>gtO (ge 9 fr) fun j=>aA (bU 9 i j (aH 0 h)) fun m _=>
 aA (bW 9 m (aH 0 h)) fun n _=>
 gtO (ge 0 fr) fun o=>gtO (ge 9 fr) fun p=>aA (aI .sub .none p (.int .i64 1) (aH 0 h)) fun q _=>
 aA (bU 9 o q (aH 0 h)) fun r _=>
 aA (bW 9 r (aH 0 h)) fun s _=>
 aA (dX lY d [n,s] (aH 0 h)) fun t u=>
 aA (aI .lss .none t (.int .i64 0) u) fun v _=>
 Out.nor (ss 34 v fr) u) (Out.nor (ss 34 (.bool false) fr) (aH 0 h))
def kV:=r1 8 8 fun a h=>aI .add .none a (.int .i64 1) h
def rJ:F→Hp→Out:=(aB (aB qV (aV (.tmp 34) Out.nor (Out.ex 2))) zz)
def kX:F→Hp→Out:=(aB (aB kW (aV (.tmp 14) Out.nor (Out.ex 0))) (aB (bP 1 (aB qW (bP 2 (dI rJ lf)))) kV))
def jE:F→Hp→Out:=(aB qX (bP 0 (dI kX lf)))
def jG:Fun:=bG Tryz.prog (kp [0,1,2,3,8,9,14,34]) Tryz.f427.ntmps [] jE
theorem ER(x0 x1 x2 x3:V)(h:Hp):jG [x0,x1,x2,x3] h=aT Tryz.prog [] (jE (ss 3 x3 (ss 2 x2 (ss 1 x1 (ss 0 x0 T.nil)))) h):=by kernel_rfl
theorem Jz:aJ Tryz.prog aN 427 jG:=prX aP [6,5] [(4,[0,0,3,7,15,15,15,111,239,15,15,1039,3599,7695,16383,32767,65535],fO [0,16,32,48,64,80,96,112,131,144,160,176,192,211,226,240,256])] (aW V5 bH) Tryz.func427
def yN:=rC 10 (.bool true)
def yM:=rC 11 (.bool true)
def pR:=r2 12 2 1 fun a b h=>aI .sub .none a b h
def pO:=r1 25 12 fun a h=>aI .leq .none a (.int .i64 12) h
def yL(fr:F)(h:Hp):Out:=
 gtO (ge 0 fr) fun a=>gtO (ge 1 fr) fun b=>gtO (ge 2 fr) fun c=>gtO (ge 4 fr) fun d=>aA (jG [a,b,c,d] h) fun i j=>
 Out.nor fr j
def yK:=r1 32 3 fun a h=>aI .eql .none a (.int .i64 0) h
def yJ:=r1 39 10 fun a h=>oUn .not a h
def wX(fr:F)(h:Hp):Out:=
 gtO (ge 0 fr) fun a=>gtO (ge 1 fr) fun b=>gtO (ge 2 fr) fun c=>gtO (ge 4 fr) fun d=>aA (kC [a,b,c,d] h) fun i j=>
 aA (bJ 0 i j) fun m n=>
 aA (bJ 1 i n) fun o p=>
 Out.nor (ss 14 o (ss 13 m fr)) p
def wW:=r1 56 14 fun a h=>aI .eql .none a (.int .i64 2) h
def wV(fr:F)(h:Hp):Out:=
 gtO (ge 10 fr) fun a=>ifB a (gtO (ge 11 fr) fun b=>ifB b (gtO (ge 14 fr) fun c=>aA (aI .eql .none c (.int .i64 1) h) fun d i=>
 Out.nor (ss 75 d fr) i) (Out.nor (ss 75 (.bool false) fr) h)) (Out.nor (ss 75 (.bool false) fr) h)
def wU(fr:F)(h:Hp):Out:=
 gtO (ge 0 fr) fun a=>gtO (ge 1 fr) fun b=>gtO (ge 2 fr) fun c=>gtO (ge 4 fr) fun d=>aA (iC [a,b,c,d] h) fun i j=>
 Out.nor (ss 80 i fr) j
def pW:F→Hp→Out:=(bP 1 (aB pR (aB (aB pO (aV (.tmp 25) (aB yL Out.ret) Out.nor)) (aB (aB yK (aV (.tmp 32) zz Out.nor)) (aB (aB yJ (aV (.tmp 39) zz Out.nor)) (aB wX (aB (aB wW (aV (.tmp 56) zz Out.nor)) (aB (aB wV (aV (.tmp 75) (aB wU (aV (.tmp 80) Out.ret Out.nor)) Out.nor)) zz))))))))
def lZ:F→Hp→Out:=(aB yN (aB yM (bP 0 (dI pW lf))))
def mD:Fun:=bG Tryz.prog (kp [0,1,2,3,4,10,11,12,13,14,15,16,17,18,19,20,25,32,39,56,75,80,97,125]) Tryz.f368.ntmps [] lZ
theorem PS(x0 x1 x2 x3 x4:V)(h:Hp):mD [x0,x1,x2,x3,x4] h=aT Tryz.prog [] (lZ (ss 4 x4 (ss 3 x3 (ss 2 x2 (ss 1 x1 (ss 0 x0 T.nil))))) h):=by kernel_rfl
theorem V7:aJ Tryz.prog aN 368 mD:=prX aP [6,8,9,12,13,14,17,18,19,20,21,22,23,24,25,26,27,28,29,30] [] (aW Jz (aW MZ (aW AQ bH))) Tryz.func368
def IJ:=r1 4 0 fun a h=>aY 2 a h
def II(fr:F)(h:Hp):Out:=
 gtO (ge 0 fr) fun a=>gtO (ge 4 fr) fun b=>aA (kU .u64 b h) fun c d=>
 aA (Nj [c] d) fun i j=>
 gtO (ge 1 fr) fun m=>aA (mD [a,(.int .i64 0),b,i,m] j) fun n o=>
 Out.nor fr o
def CP:F→Hp→Out:=(aB IJ II)
def uV:Fun:=bG Tryz.prog (kp [0,1,4]) Tryz.f283.ntmps [] CP
theorem aap(x0 x1:V)(h:Hp):uV [x0,x1] h=aT Tryz.prog [] (CP (ss 1 x1 (ss 0 x0 T.nil)) h):=by kernel_rfl
theorem ahd:aJ Tryz.prog aN 283 uV:=prX aP [] [] (aW al7 (aW V7 bH)) Tryz.func283
def ajY(fr:F)(h:Hp):Out:=
 Out.nor (ss 3 (.int .i64 0) (ss 2 .aG fr)) h
def ajX:=r1 6 0 fun a h=>nG [a,(.func (.func 79) .nil .nil)] h
def ajW:=r1 4 0 fun a h=>rQ [a] h
def ajV(fr:F)(h:Hp):Out:=
 gtO (ge 4 fr) fun a=>aA (mr [a] h) fun b c=>
 Out.nor fr c
def ajU:=r1 4 4 fun a h=>uY [a] h
def ajT(fr:F)(h:Hp):Out:=
 gtO (ge 4 fr) fun a=>aA (aY 2 a h) fun b c=>
 aA (aI .gtr .none b (.int .i64 16) c) fun d i=>
 Out.nor (ss 15 d fr) i
def ajS(fr:F)(h:Hp):Out:=
 gtO (ge 4 fr) fun a=>Out.nor (ss 3 (.int .i64 0) (ss 2 a fr)) h
def ag8:F→Hp→Out:=(aB ajY (aB (aB ajX (aV (.tmp 6) zz Out.nor)) (aB ajW (aB ajV (aB ajU (aB (aB ajT (aV (.tmp 15) zz Out.nor)) (aB ajS Out.ret)))))))
def XI:Fun:=bG Tryz.prog (kp [0,2,3,4,6,15]) Tryz.f32.ntmps [.tmp 2,.tmp 3] ag8
theorem ayG(x0:V)(h:Hp):XI [x0] h=aT Tryz.prog [.tmp 2,.tmp 3] (ag8 (ss 0 x0 T.nil) h):=by kernel_rfl
theorem aGU:aJ Tryz.prog aN 32 XI:=prX aP [2,7] [] (aW Wy (aW V8 (aW apa (aW ahg bH)))) Tryz.func32
def aoS:=r1 9 0 fun a h=>aI .eql (.ptr 3) a .bY h
def aoR(fr:F)(h:Hp):Out:=
 gtO (ge 1 fr) fun a=>aA (aY 2 a h) fun b c=>
 Out.nor (ss 12 (.int .i64 0) (ss 11 b (ss 10 a fr))) c
def aoQ:=r2 13 12 11 fun a b h=>aI .lss .none a b h
def abQ(fr:F)(h:Hp):Out:=
 gtO (ge 10 fr) fun a=>gtO (ge 12 fr) fun b=>aA (bU 4 a b h) fun c d=>
 aA (bW 4 c d) fun i j=>
 aA (fC 85 [(.int .i64 0),(.int .i64 0),(.int .i64 0),(.int .i64 0)] j) fun m n=>
 aA (aO 4 m i n) fun _ o=>
 Out.nor (ss 5 m fr) o
def abP(fr:F)(h:Hp):Out:=
 gtO (ge 0 fr) fun a=>aA (aK a h) fun b c=>
 aA (aC 1 b c) fun d i=>
 aA (aF d i) fun j m=>
 aA (aY 2 j m) fun n o=>
 Out.nor (ss 6 n fr) o
def abO(fr:F)(h:Hp):Out:=
 gtO (ge 6 fr) fun a=>aA (aI .gtr .none a (.int .i64 0) (aH 0 h)) fun b _=>
 ifB b (gtO (ge 5 fr) fun c=>aA (aC 0 c (aH 0 h)) fun d _=>
 aA (aF d (aH 0 h)) fun i _=>
 gtO (ge 0 fr) fun j=>aA (aK j (aH 0 h)) fun m _=>
 aA (aC 1 m (aH 0 h)) fun n _=>
 aA (aF n (aH 0 h)) fun o _=>
 gtO (ge 6 fr) fun p=>aA (aI .sub .none p (.int .i64 1) (aH 0 h)) fun q _=>
 aA (bU 4 o q (aH 0 h)) fun r _=>
 aA (aC 0 r (aH 0 h)) fun s _=>
 aA (aF s (aH 0 h)) fun t _=>
 aA (aI .lss .none i t (aH 0 h)) fun u _=>
 Out.nor (ss 36 u fr) (aH 0 h)) (Out.nor (ss 36 (.bool false) fr) (aH 0 h))
def abN(fr:F)(h:Hp):Out:=
 gtO (ge 0 fr) fun a=>aA (aK a (aH 1 h)) fun b _=>
 aA (aC 1 b (aH 1 h)) fun c _=>
 aA (aF c (aH 1 h)) fun d _=>
 gtO (ge 5 fr) fun i=>aA (bW 4 i (aH 1 h)) fun j _=>
 FT (fD 85 [(.int .i64 0),(.int .i64 0),(.int .i64 0),(.int .i64 0)] 1 [(0,4,j)]) fun ob6 mk6=>
 aA (bT 85 4 32 d (mk6 (Hp.next h)) (Hp.put (aH 1 h) (Hp.next h) (some ob6))) fun m n=>
 gtO (ge 0 fr) fun o=>aA (aK o n) fun p _=>
 aA (aC 1 p n) fun q _=>
 aA (aO 1 q m n) fun _ r=>
 Out.nor fr r
def aoP:=r1 12 12 fun a h=>aI .add .none a (.int .i64 1) h
def aoO(fr:F)(h:Hp):Out:=
 gtO (ge 0 fr) fun a=>aA (aK a (aH 0 h)) fun b _=>
 aA (aC 1 b (aH 0 h)) fun c _=>
 aA (aF c (aH 0 h)) fun d _=>
 aA (aY 2 d (aH 0 h)) fun i _=>
 gtO (ge 0 fr) fun j=>aA (aK j (aH 0 h)) fun m _=>
 aA (aC 0 m (aH 0 h)) fun n _=>
 aA (aF n (aH 0 h)) fun o _=>
 aA (aI .sub .none i o (aH 0 h)) fun p _=>
 Out.nor (ss 7 p fr) (aH 0 h)
def aoN:=r1 59 7 fun a h=>aI .gtr .none a (.int .i64 0) h
def apk:F→Hp→Out:=(aB aoQ (aB (aV (.tmp 13) Out.nor (Out.ex 0)) (aB (bP 1 (aB abQ (aB (aB abP (aB abO (aV (.tmp 36) (Out.ex 0) Out.nor))) abN))) aoP)))
def acj:F→Hp→Out:=(aB (aB aoS (aV (.tmp 9) Out.ret Out.nor)) (aB (aB aoR (bP 0 (dI apk lf))) (aB aoO (aB aoN (aV (.tmp 59) zz Out.nor)))))
def Nl:Fun:=bG Tryz.prog (kp [0,1,5,6,7,9,10,11,12,13,36,59]) Tryz.f38.ntmps [] acj
theorem azQ(x0 x1:V)(h:Hp):Nl [x0,x1] h=aT Tryz.prog [] (acj (ss 1 x1 (ss 0 x0 T.nil)) h):=by kernel_rfl
theorem aym:aJ Tryz.prog aN 38 Nl:=prX aP [10,11] [(5,[0,1,3,7,15,7,39,103,231,7,519,2023,4071,8167,16383,32767],fO [0,16,32,48,67,80,96,112,131,144,160,176,192,211,224,240]),(6,[0,0,2,6,14,0,32,126,255,511,1023],fO [16,32,48,67,83,97,114,0,128,144,162]),(8,[0,1,3,7,15,0,32,96,224,511,1023],fO [0,16,32,51,64,80,96,112,131,144,160])] bH Tryz.func38
def agb:=rC 2 (.int .i64 0)
def aga:=r1 4 0 fun a h=>aI .eql (.ptr 16) a .bY h
def af9(fr:F)(h:Hp):Out:=
 gtO (ge 0 fr) fun a=>aA (aK a h) fun b c=>
 aA (aC 9 b c) fun d i=>
 aA (xg [d] i) fun j m=>
 Out.nor (ss 2 j fr) m
def acg:F→Hp→Out:=(aB agb (aB (aB aga (aV (.tmp 4) zz Out.nor)) (aB af9 Out.ret)))
def JI:Fun:=bG Tryz.prog (kp [0,2,4]) Tryz.f19.ntmps [.tmp 2] acg
theorem ato(x0:V)(h:Hp):JI [x0] h=aT Tryz.prog [.tmp 2] (acg (ss 0 x0 T.nil) h):=by kernel_rfl
theorem ao8:aJ Tryz.prog aN 19 JI:=prX aP [2] [] (aW XA bH) Tryz.func19
def agf:=rC 2 .aG
def agd:=r1 4 0 fun a h=>aI .eql (.ptr 16) a .bY h
def agc(fr:F)(h:Hp):Out:=
 gtO (ge 0 fr) fun a=>aA (aK a h) fun b c=>
 aA (aC 10 b c) fun d i=>
 aA (aF d i) fun j m=>
 aA (FD [j] m) fun n o=>
 Out.nor (ss 2 n fr) o
def ach:F→Hp→Out:=(aB agf (aB (aB agd (aV (.tmp 4) zz Out.nor)) (aB agc Out.ret)))
def yw:Fun:=bG Tryz.prog (kp [0,2,4]) Tryz.f24.ntmps [.tmp 2] ach
theorem atp(x0:V)(h:Hp):yw [x0] h=aT Tryz.prog [.tmp 2] (ach (ss 0 x0 T.nil) h):=by kernel_rfl
theorem Tv:aJ Tryz.prog aN 24 yw:=prX aP [2] [] (aW atf bH) Tryz.func24
def adF(fr:F)(h:Hp):Out:=
 gtO (ge 0 fr) fun a=>aA (fV 40 a h) fun b c=>
 aA (fC 40 [(.int .i64 0),(.int .i64 0),(.str []),(.int .i64 0),.aG,.aG,(.int .i64 0),(.int .i64 0)] c) fun d i=>
 Out.nor (ss 2 d (ss 1 b fr)) i
def adE(fr:F)(h:Hp):Out:=
 gtO (ge 1 fr) fun a=>aA (aC 4 a (aH 0 h)) fun b _=>
 aA (aF b (aH 0 h)) fun c _=>
 aA (rQ [c] (aH 0 h)) fun d i=>
 gtO (ge 1 fr) fun j=>aA (aC 5 j i) fun m _=>
 aA (aF m i) fun n _=>chk (fun h=>aF m h) n (
 aA (yC [n] i) fun o p=>
 gtO (ge 1 fr) fun q=>aA (aC 4 q p) fun r _=>
 aA (aO 1 r d p) fun _ s=>
 gtO (ge 1 fr) fun t=>aA (aC 5 t s) fun u _=>
 aA (aO 1 u o s) fun _ v=>
 Out.nor fr v) 1 [(aH 0 h)]
def adD(fr:F)(h:Hp):Out:=
 gtO (ge 1 fr) fun a=>aA (bW 8 a h) fun b c=>
 gtO (ge 2 fr) fun d=>aA (aO 8 d b c) fun _ i=>
 Out.nor fr i
def YJ:F→Hp→Out:=(aB adF (aB adE (aB adD Out.ret)))
def NV:Fun:=bG Tryz.prog (kp [0,1,2]) Tryz.f43.ntmps [.cell 2 40] YJ
theorem aq5(x0:V)(h:Hp):NV [x0] h=aT Tryz.prog [.cell 2 40] (YJ (ss 0 x0 T.nil) h):=by kernel_rfl
theorem azv:aJ Tryz.prog aN 43 NV:=prX aP [] [(1,[0,1,3,0,8,31,31,127,255,511],fO [0,19,34,48,68,82,96,114,128,146])] (aW V8 (aW al6 bH)) Tryz.func43
def af6:=rC 2 .aG
def af5:=r1 7 0 fun a h=>aI .eql (.ptr 16) a .bY h
def af4:=rC 3 .aG
def af2(fr:F)(h:Hp):Out:=
 gtO (ge 0 fr) fun a=>aA (aK a h) fun b c=>
 aA (aC 11 b c) fun d i=>
 aA (aF d i) fun j m=>
 aA (aY 2 j m) fun n o=>
 Out.nor (ss 13 (.int .i64 0) (ss 12 n (ss 11 j fr))) o
def af0:=r2 14 13 12 fun a b h=>aI .lss .none a b h
def afZ(fr:F)(h:Hp):Out:=
 gtO (ge 11 fr) fun a=>gtO (ge 13 fr) fun b=>aA (bU 8 a b h) fun c d=>
 aA (bW 8 c d) fun i j=>
 aA (fC 40 [(.int .i64 0),(.int .i64 0),(.str []),(.int .i64 0),.aG,.aG,(.int .i64 0),(.int .i64 0)] j) fun m n=>
 aA (aO 8 m i n) fun _ o=>
 Out.nor (ss 5 m fr) o
def afY(fr:F)(h:Hp):Out:=
 gtO (ge 3 fr) fun a=>gtO (ge 5 fr) fun b=>aA (bW 8 b h) fun c d=>
 aA (NV [c] d) fun i j=>
 aA (bI 40 [(.int .i64 0),(.int .i64 0),(.str []),(.int .i64 0),.aG,.aG,(.int .i64 0),(.int .i64 0)] 1 [(0,8,i)] j) fun m n=>
 aA (bT 40 8 104 a m n) fun o p=>
 Out.nor (ss 3 o fr) p
def afX:=r1 13 13 fun a h=>aI .add .none a (.int .i64 1) h
def afW:=rM 2 3
def ahi:F→Hp→Out:=(aB af0 (aB (aV (.tmp 14) Out.nor (Out.ex 0)) (aB (bP 1 (aB afZ afY)) afX)))
def ace:F→Hp→Out:=(aB af6 (aB (aB af5 (aV (.tmp 7) zz Out.nor)) (aB af4 (aB (aB af2 (bP 0 (dI ahi lf))) (aB afW Out.ret)))))
def Dz:Fun:=bG Tryz.prog (kp [0,2,3,5,7,11,12,13,14]) Tryz.f15.ntmps [.tmp 2] ace
theorem atm(x0:V)(h:Hp):Dz [x0] h=aT Tryz.prog [.tmp 2] (ace (ss 0 x0 T.nil) h):=by kernel_rfl
theorem acu:aJ Tryz.prog aN 15 Dz:=prX aP [2] [] (aW azv bH) Tryz.func15
def ajl:=rC 2 (.bool false)
def ajk(fr:F)(h:Hp):Out:=
 gtO (ge 0 fr) fun a=>aA (JI [a] (aH 0 h)) fun b c=>
 gtO (ge 0 fr) fun d=>aA (aK d c) fun i _=>
 aA (aC 0 i c) fun j _=>
 aA (aC 6 j c) fun m _=>
 aA (aF m c) fun n _=>chk (fun h=>aF m h) n (
 aA (aI .geq .none b n c) fun o _=>
 Out.nor (ss 2 o fr) c) 1 [(aH 0 h)]
def ag0:F→Hp→Out:=(aB ajl (aB ajk Out.ret))
def PN:Fun:=bG Tryz.prog (kp [0,2]) Tryz.f34.ntmps [.tmp 2] ag0
theorem ayy(x0:V)(h:Hp):PN [x0] h=aT Tryz.prog [.tmp 2] (ag0 (ss 0 x0 T.nil) h):=by kernel_rfl
theorem asM:aJ Tryz.prog aN 34 PN:=prX aP [] [(1,[0,1,0,4,12,28,60,127,255],fO [0,18,32,48,64,80,100,112,128])] (aW ao8 bH) Tryz.func34
def adu:=rC 6 .aG
def adt:=r1 7 2 fun a h=>y9 [a] h
def ads(fr:F)(h:Hp):Out:=
 gtO (ge 7 fr) fun a=>aA (oN [a] h) fun b c=>
 Out.nor fr c
def adr:=rC 8 .aG
def adq(fr:F)(h:Hp):Out:=
 gtO (ge 7 fr) fun a=>aA (pz [a] h) fun b c=>
 aA (aY 2 b c) fun d i=>
 Out.nor (ss 18 (.int .i64 0) (ss 17 d (ss 16 b fr))) i
def adp:=r2 19 18 17 fun a b h=>aI .lss .none a b h
def ado(fr:F)(h:Hp):Out:=
 gtO (ge 16 fr) fun a=>gtO (ge 18 fr) fun b=>aA (bU 1 a b h) fun c d=>
 aA (aF c d) fun i j=>
 Out.nor (ss 10 i fr) j
def adn(fr:F)(h:Hp):Out:=
 gtO (ge 0 fr) fun a=>gtO (ge 10 fr) fun b=>aA (Gg [a,b] (aH 0 h)) fun c d=>
 gtO (ge 0 fr) fun i=>aA (aK i d) fun j _=>
 aA (aC 10 j d) fun m _=>
 aA (aF m d) fun n _=>chk (fun h=>aF m h) n (
 gtO (ge 1 fr) fun o=>aA (bU 6 n c d) fun p _=>
 aA (aC 5 p d) fun q _=>
 aA (aO 1 q o d) fun _ r=>
 Out.nor fr r) 1 [(aH 0 h)]
def adl(fr:F)(h:Hp):Out:=
 gtO (ge 8 fr) fun a=>gtO (ge 1 fr) fun b=>gtO (ge 10 fr) fun c=>aA (bK [(.int .i64 0),(.int .i64 0),(.int .i64 0),(.int .i64 0)] [(0,1,b),(1,1,(.int .i64 1)),(2,1,c),(3,1,(.int .i64 2))] h) fun d i=>
 aA (bI 85 [(.int .i64 0),(.int .i64 0),(.int .i64 0),(.int .i64 0)] 1 [(0,4,d)] i) fun j m=>
 aA (bT 85 4 32 a j m) fun n o=>
 Out.nor (ss 8 n fr) o
def adk:=r1 18 18 fun a h=>aI .add .none a (.int .i64 1) h
def ZP(fr:F)(h:Hp):Out:=
 gtO (ge 8 fr) fun a=>aA (aY 2 a h) fun b c=>
 aA (aY 2 a c) fun d i=>
 aA (eX 4 a none (some b) (some d) i) fun j m=>
 Out.nor (ss 6 j fr) m
def aee:F→Hp→Out:=(aB adp (aB (aV (.tmp 19) Out.nor (Out.ex 0)) (aB (bP 1 (aB ado (aB adn adl))) adk)))
def YH:F→Hp→Out:=(aB adu (aB adt (aB ads (aB adr (aB (aB adq (bP 0 (dI aee lf))) (aB ZP Out.ret))))))
def EQ:Fun:=bG Tryz.prog (kp [0,1,2,6,7,8,10,16,17,18,19]) Tryz.f39.ntmps [.tmp 6] YH
theorem aq2(x0 x1 x2:V)(h:Hp):EQ [x0,x1,x2] h=aT Tryz.prog [.tmp 6] (YH (ss 2 x2 (ss 1 x1 (ss 0 x0 T.nil))) h):=by kernel_rfl
theorem aj7:aJ Tryz.prog aN 39 EQ:=prX aP [] [(7,[0,1,3,7,0,0,48,0,255,511,1023],fO [64,80,98,0,16,32,52,112,128,144,162])] (aW ad9 (aW ahc (aW Xz (aW acv bH)))) Tryz.func39
def aje:=rC 2 (.int .i64 0)
def ajd(fr:F)(h:Hp):Out:=
 gtO (ge 0 fr) fun a=>aA (aK a h) fun b c=>
 aA (aC 9 b c) fun d i=>
 aA (aax [d,(.int .i64 1)] i) fun j m=>
 Out.nor (ss 2 j fr) m
def agY:F→Hp→Out:=(aB aje (aB ajd Out.ret))
def PL:Fun:=bG Tryz.prog (kp [0,2]) Tryz.f35.ntmps [.tmp 2] agY
theorem ayw(x0:V)(h:Hp):PL [x0] h=aT Tryz.prog [.tmp 2] (agY (ss 0 x0 T.nil) h):=by kernel_rfl
theorem asL:aJ Tryz.prog aN 35 PL:=prX aP [] [] (aW aGW bH) Tryz.func35
def adi(fr:F)(h:Hp):Out:=
 gtO (ge 0 fr) fun a=>aA (fV 24 a h) fun b c=>
 Out.nor (ss 5 (.bool false) (ss 4 .aG (ss 2 b fr))) c
def adh:=r1 6 1 fun a h=>y9 [a] h
def adg(fr:F)(h:Hp):Out:=
 gtO (ge 6 fr) fun a=>aA (oN [a] h) fun b c=>
 Out.nor fr c
def adf:=r1 6 6 fun a h=>pz [a] h
def ade(fr:F)(h:Hp):Out:=
 gtO (ge 6 fr) fun a=>gtO (ge 2 fr) fun b=>aA (fK (.func 102) [] [b] h) fun c d=>
 aA (jm [a,c] d) fun i j=>
 aA (oUn .not i j) fun m n=>
 Out.nor (ss 5 m (ss 4 a fr)) n
def YG:F→Hp→Out:=(aB adi (aB adh (aB adg (aB adf (aB ade Out.ret)))))
def NS:Fun:=bG Tryz.prog (kp [0,1,2,4,5,6]) Tryz.f45.ntmps [.tmp 4,.tmp 5] YG
theorem aq1(x0 x1:V)(h:Hp):NS [x0,x1] h=aT Tryz.prog [.tmp 4,.tmp 5] (YG (ss 1 x1 (ss 0 x0 T.nil)) h):=by kernel_rfl
theorem azs:aJ Tryz.prog aN 45 NS:=prX aP [] [] (aW ad9 (aW ahc (aW Xz (aW JA bH)))) Tryz.func45
def adC(fr:F)(h:Hp):Out:=
 aA (fC 106 [(.int .i64 0),(.int .i64 0)] h) fun a b=>
 Out.nor (ss 4 a fr) b
def adB(fr:F)(h:Hp):Out:=
 gtO (ge 0 fr) fun a=>gtO (ge 1 fr) fun b=>aA (Gg [a,b] (aH 0 h)) fun c d=>
 gtO (ge 0 fr) fun i=>aA (aK i d) fun j _=>
 aA (aC 10 j d) fun m _=>
 aA (aF m d) fun n _=>chk (fun h=>aF m h) n (
 aA (bU 6 n c d) fun o _=>
 Out.nor (ss 5 o fr) d) 1 [(aH 0 h)]
def adA(fr:F)(h:Hp):Out:=
 gtO (ge 5 fr) fun a=>aA (aK a h) fun b c=>
 aA (aC 4 b c) fun d i=>
 aA (aF d i) fun j m=>
 aA (aI .add .none j (.int .i64 1) m) fun n o=>
 aA (aK a o) fun p q=>
 aA (aC 4 p q) fun r s=>
 aA (aO 1 r n s) fun _ t=>
 Out.nor fr t
def adz(fr:F)(h:Hp):Out:=
 gtO (ge 1 fr) fun a=>gtO (ge 5 fr) fun b=>aA (aK b h) fun c d=>
 aA (aC 4 c d) fun i j=>
 aA (aF i j) fun m n=>
 aA (aI .sub .none m (.int .i64 1) n) fun o p=>
 aA (bK [(.int .i64 0),(.int .i64 0)] [(0,1,a),(1,1,o)] p) fun q r=>
 gtO (ge 4 fr) fun s=>aA (aO 2 s q r) fun _ t=>
 Out.nor fr t
def YI:F→Hp→Out:=(aB adC (aB adB (aB adA (aB adz Out.ret))))
def NU:Fun:=bG Tryz.prog (kp [0,1,4,5]) Tryz.f49.ntmps [.cell 4 106] YI
theorem aq4(x0 x1:V)(h:Hp):NU [x0,x1] h=aT Tryz.prog [.cell 4 106] (YI (ss 1 x1 (ss 0 x0 T.nil)) h):=by kernel_rfl
theorem azu:aJ Tryz.prog aN 49 NU:=prX aP [] [(1,[0,1,3,7,0,0,48,127,255],fO [64,80,98,0,16,32,52,112,128])] (aW acv bH) Tryz.func49
def ac3:=rC 4 .aG
def ac2:=rC 5 .aG
def ac1(fr:F)(h:Hp):Out:=
 gtO (ge 0 fr) fun a=>aA (Dz [a] h) fun b c=>
 aA (aY 2 b c) fun d i=>
 Out.nor (ss 13 (.int .i64 0) (ss 12 d (ss 11 b fr))) i
def ac0:=r2 14 13 12 fun a b h=>aI .lss .none a b h
def acZ(fr:F)(h:Hp):Out:=
 gtO (ge 11 fr) fun a=>gtO (ge 13 fr) fun b=>aA (bU 8 a b h) fun c d=>
 aA (bW 8 c d) fun i j=>
 aA (fC 40 [(.int .i64 0),(.int .i64 0),(.str []),(.int .i64 0),.aG,.aG,(.int .i64 0),(.int .i64 0)] j) fun m n=>
 aA (aO 8 m i n) fun _ o=>
 Out.nor (ss 7 m fr) o
def acY(fr:F)(h:Hp):Out:=
 gtO (ge 7 fr) fun a=>aA (aC 5 a h) fun b c=>
 aA (aF b c) fun d i=>
 aA (aY 2 d i) fun j m=>
 Out.nor (ss 20 (.int .i64 0) (ss 19 j (ss 18 d fr))) m
def acX:=r2 21 20 19 fun a b h=>aI .lss .none a b h
def QF(fr:F)(h:Hp):Out:=
 gtO (ge 18 fr) fun a=>gtO (ge 20 fr) fun b=>aA (bU 2 a b h) fun c d=>
 aA (bW 2 c d) fun i j=>
 aA (fC 106 [(.int .i64 0),(.int .i64 0)] j) fun m n=>
 aA (aO 2 m i n) fun _ o=>
 Out.nor (ss 9 m fr) o
def QE(fr:F)(h:Hp):Out:=
 gtO (ge 9 fr) fun a=>aA (aC 0 a h) fun b c=>
 aA (aF b c) fun d i=>
 gtO (ge 1 fr) fun j=>aA (aI .eql .none d j i) fun m n=>
 Out.nor (ss 27 m fr) n
def acW(fr:F)(h:Hp):Out:=
 gtO (ge 5 fr) fun a=>gtO (ge 9 fr) fun b=>aA (aC 1 b h) fun c d=>
 aA (aF c d) fun i j=>
 gtO (ge 7 fr) fun m=>aA (bW 8 m j) fun n o=>
 aA (bK [(.int .i64 0),(.int .i64 0),(.int .i64 0),(.str []),(.int .i64 0),.aG,.aG,(.int .i64 0),(.int .i64 0)] [(0,1,i),(1,8,n)] o) fun p q=>
 aA (bI 250 [(.int .i64 0),(.int .i64 0),(.int .i64 0),(.str []),(.int .i64 0),.aG,.aG,(.int .i64 0),(.int .i64 0)] 1 [(0,9,p)] q) fun r s=>
 aA (bT 250 9 112 a r s) fun t u=>
 Out.nor (ss 5 t fr) u
def ZH:=r1 20 20 fun a h=>aI .add .none a (.int .i64 1) h
def ZG:=r1 13 13 fun a h=>aI .add .none a (.int .i64 1) h
def ZF(fr:F)(h:Hp):Out:=
 gtO (ge 5 fr) fun a=>aA (uV [a,(.func (.func 284) .nil .nil)] h) fun b c=>
 Out.nor fr c
def ZE:=rM 4 5
def aeb:F→Hp→Out:=(aB acX (aB (aV (.tmp 21) Out.nor (Out.ex 2)) (aB (bP 3 (aB QF (aB QE (aV (.tmp 27) acW Out.nor)))) ZH)))
def aec:F→Hp→Out:=(aB ac0 (aB (aV (.tmp 14) Out.nor (Out.ex 0)) (aB (bP 1 (aB acZ (aB acY (bP 2 (dI aeb lf))))) ZG)))
def YE:F→Hp→Out:=(aB ac3 (aB ac2 (aB (aB ac1 (bP 0 (dI aec lf))) (aB ZF (aB ZE Out.ret)))))
def zA:Fun:=bG Tryz.prog (kp [0,1,4,5,7,9,11,12,13,14,18,19,20,21,27]) Tryz.f175.ntmps [.tmp 4] YE
theorem aqZ(x0 x1:V)(h:Hp):zA [x0,x1] h=aT Tryz.prog [.tmp 4] (YE (ss 1 x1 (ss 0 x0 T.nil)) h):=by kernel_rfl
theorem aj6:aJ Tryz.prog aN 175 zA:=prX aP [] [] (aW acu (aW ahd bH)) Tryz.func175
def aoi(fr:F)(h:Hp):Out:=
 gtO (ge 1 fr) fun a=>aA (fV 250 a h) fun b c=>
 Out.nor (ss 3 b fr) c
def aoh(fr:F)(h:Hp):Out:=
 gtO (ge 3 fr) fun a=>aA (aC 0 a h) fun b c=>
 aA (aF b c) fun d i=>
 aA (aC 1 a i) fun j m=>
 aA (aC 0 j m) fun n o=>
 aA (aF n o) fun p q=>
 aA (bK [(.int .i64 0)] [] q) fun r s=>
 aA (fV 75 r s) fun t u=>
 aA (bK [(.int .i64 0),(.int .i64 0),.bY] [(0,1,d),(1,1,p),(2,1,t)] u) fun v w=>
 aA (fC 248 [(.int .i64 0),(.int .i64 0),.bY] w) fun x y=>
 aA (aO 3 x v y) fun _ z=>
 Out.nor (ss 4 x fr) z
def aog(fr:F)(h:Hp):Out:=
 gtO (ge 4 fr) fun a=>aA (aC 2 a h) fun b c=>
 aA (aF b c) fun d i=>
 gtO (ge 3 fr) fun j=>aA (aC 1 j i) fun m n=>
 aA (aC 6 m n) fun o p=>
 aA (aF o p) fun q r=>
 aA (qE [d,q] r) fun s t=>
 Out.nor fr t
def aof(fr:F)(h:Hp):Out:=
 gtO (ge 0 fr) fun a=>aA (aK a (aH 1 h)) fun b _=>
 aA (aC 1 b (aH 1 h)) fun c _=>
 aA (aF c (aH 1 h)) fun d _=>
 gtO (ge 4 fr) fun i=>aA (bW 3 i (aH 1 h)) fun j _=>
 FT (fD 248 [(.int .i64 0),(.int .i64 0),.bY] 1 [(0,3,j)]) fun ob6 mk6=>
 aA (bT 248 3 24 d (mk6 (Hp.next h)) (Hp.put (aH 1 h) (Hp.next h) (some ob6))) fun m n=>
 gtO (ge 0 fr) fun o=>aA (aK o n) fun p _=>
 aA (aC 1 p n) fun q _=>
 aA (aO 1 q m n) fun _ r=>
 Out.nor fr r
def aoe(fr:F)(h:Hp):Out:=
 gtO (ge 0 fr) fun a=>gtO (ge 0 fr) fun b=>aA (aK b (aH 0 h)) fun c _=>
 aA (aC 2 c (aH 0 h)) fun d _=>
 aA (aF d (aH 0 h)) fun i _=>
 gtO (ge 3 fr) fun j=>aA (aC 0 j (aH 0 h)) fun m _=>
 aA (aF m (aH 0 h)) fun n _=>
 aA (apP i n (aH 0 h)) fun o _=>
 aA (aK a (aH 0 h)) fun p _=>
 aA (aC 2 p (aH 0 h)) fun q _=>
 aA (aO 1 q o (aH 0 h)) fun _ r=>
 Out.nor fr r
def alW:F→Hp→Out:=(aB aoi (aB aoh (aB aog (aB aof aoe))))
def acG:Fun:=bG Tryz.prog (kp [0,1,3,4]) Tryz.f181.ntmps [] alW
theorem azG(x0 x1:V)(h:Hp):acG [x0,x1] h=aT Tryz.prog [] (alW (ss 1 x1 (ss 0 x0 T.nil)) h):=by kernel_rfl
theorem aIT:aJ Tryz.prog aN 181 acG:=prX aP [] [(3,[0,0,2,6,14,0,32,126,255,511,1023],fO [16,32,48,67,83,97,114,0,128,144,162]),(4,[0,0,2,6,14,0,32,126,255,511,1023],fO [0,16,32,48,67,80,99,112,128,144,162])] (aW TA bH) Tryz.func181
def an1(fr:F)(h:Hp):Out:=
 gtO (ge 1 fr) fun a=>aA (fV 3 a h) fun b c=>
 Out.nor (ss 5 (.int .i64 0) (ss 4 .bY (ss 3 b fr))) c
def an0:=r1 9 0 fun a h=>aI .eql (.ptr 16) a .bY h
def anZ(fr:F)(h:Hp):Out:=
 gtO (ge 0 fr) fun a=>aA (yw [a] h) fun b c=>
 gtO (ge 3 fr) fun d=>aA (fK (.func 290) [] [d] c) fun i j=>
 aA (mF [b,i] j) fun m n=>
 aA (oUn .not m n) fun o p=>
 Out.nor (ss 12 o fr) p
def anY(fr:F)(h:Hp):Out:=
 gtO (ge 3 fr) fun a=>aA (aF a h) fun b c=>
 aA (bK [(.int .i64 0),.aG,(.int .i64 0)] [(0,1,b)] c) fun d i=>
 aA (fV 246 d i) fun j m=>
 Out.nor (ss 6 j fr) m
def anX(fr:F)(h:Hp):Out:=
 gtO (ge 0 fr) fun a=>gtO (ge 3 fr) fun b=>aA (aF b h) fun c d=>
 aA (zA [a,c] d) fun i j=>
 aA (aY 2 i j) fun m n=>
 Out.nor (ss 25 (.int .i64 0) (ss 24 m (ss 23 i fr))) n
def anW:=r2 26 25 24 fun a b h=>aI .lss .none a b h
def anU(fr:F)(h:Hp):Out:=
 gtO (ge 23 fr) fun a=>gtO (ge 25 fr) fun b=>aA (bU 9 a b h) fun c d=>
 aA (bW 9 c d) fun i j=>
 aA (fC 250 [(.int .i64 0),(.int .i64 0),(.int .i64 0),(.str []),(.int .i64 0),.aG,.aG,(.int .i64 0),(.int .i64 0)] j) fun m n=>
 aA (aO 9 m i n) fun _ o=>
 Out.nor (ss 8 m fr) o
def anT(fr:F)(h:Hp):Out:=
 gtO (ge 6 fr) fun a=>gtO (ge 8 fr) fun b=>aA (bW 9 b h) fun c d=>
 aA (acG [a,c] d) fun i j=>
 Out.nor fr j
def aiU:=r1 25 25 fun a h=>aI .add .none a (.int .i64 1) h
def aiT(fr:F)(h:Hp):Out:=
 gtO (ge 6 fr) fun a=>Out.nor (ss 5 (.int .i64 0) (ss 4 a fr)) h
def aph:F→Hp→Out:=(aB anW (aB (aV (.tmp 26) Out.nor (Out.ex 1)) (aB (bP 2 (aB anU anT)) aiU)))
def ab7:F→Hp→Out:=(aB an1 (aB (bP 0 (aB an0 (aV (.tmp 9) zz (aB anZ (aV (.tmp 12) zz Out.nor))))) (aB anY (aB (aB anX (bP 1 (dI aph lf))) (aB aiT Out.ret)))))
def acE:Fun:=bG Tryz.prog (kp [0,1,3,4,5,6,8,9,12,23,24,25,26]) Tryz.f185.ntmps [.tmp 4,.tmp 5] ab7
theorem azD(x0 x1:V)(h:Hp):acE [x0,x1] h=aT Tryz.prog [.tmp 4,.tmp 5] (ab7 (ss 1 x1 (ss 0 x0 T.nil)) h):=by kernel_rfl
theorem aIR:aJ Tryz.prog aN 185 acE:=prX aP [2,4] [] (aW Tv (aW acy (aW aj6 (aW aIT bH)))) Tryz.func185
def aiQ:=rC 2 .aG
def aiP:=r1 7 0 fun a h=>aI .eql (.ptr 3) a .bY h
def aiO:=rC 3 .aG
def aiN(fr:F)(h:Hp):Out:=
 gtO (ge 0 fr) fun a=>aA (aK a h) fun b c=>
 aA (aC 1 b c) fun d i=>
 aA (aF d i) fun j m=>
 aA (aY 2 j m) fun n o=>
 Out.nor (ss 13 (.int .i64 0) (ss 12 n (ss 11 j fr))) o
def aiM:=r2 14 13 12 fun a b h=>aI .lss .none a b h
def aiL(fr:F)(h:Hp):Out:=
 gtO (ge 11 fr) fun a=>gtO (ge 13 fr) fun b=>aA (bU 3 a b h) fun c d=>
 aA (bW 3 c d) fun i j=>
 aA (fC 248 [(.int .i64 0),(.int .i64 0),.bY] j) fun m n=>
 aA (aO 3 m i n) fun _ o=>
 Out.nor (ss 5 m fr) o
def aiK(fr:F)(h:Hp):Out:=
 gtO (ge 3 fr) fun a=>gtO (ge 5 fr) fun b=>aA (aC 0 b h) fun c d=>
 aA (aF c d) fun i j=>
 aA (bI 3 [(.int .i64 0)] 1 [(0,1,i)] j) fun m n=>
 aA (bT 3 1 8 a m n) fun o p=>
 Out.nor (ss 3 o fr) p
def aiJ:=r1 13 13 fun a h=>aI .add .none a (.int .i64 1) h
def aiI:=rM 2 3
def akb:F→Hp→Out:=(aB aiM (aB (aV (.tmp 14) Out.nor (Out.ex 0)) (aB (bP 1 (aB aiL aiK)) aiJ)))
def agW:F→Hp→Out:=(aB aiQ (aB (aB aiP (aV (.tmp 7) zz Out.nor)) (aB aiO (aB (aB aiN (bP 0 (dI akb lf))) (aB aiI Out.ret)))))
def PI:Fun:=bG Tryz.prog (kp [0,2,3,5,7,11,12,13,14]) Tryz.f139.ntmps [.tmp 2] agW
theorem ayr(x0:V)(h:Hp):PI [x0] h=aT Tryz.prog [.tmp 2] (agW (ss 0 x0 T.nil) h):=by kernel_rfl
theorem asJ:aJ Tryz.prog aN 139 PI:=prX aP [2] [] bH Tryz.func139
def ayJ:Fun:=atF
theorem aPl:aJ Tryz.prog aN 282 ayJ:=aur Tryz.func282 (by kernel_rfl) (by kernel_rfl) (by kernel_rfl) (by kernel_rfl)
def alJ(fr:F)(h:Hp):Out:=
 gtO (ge 0 fr) fun a=>aA (aK a h) fun b c=>
 aA (aC 0 b c) fun d i=>
 aA (aF d i) fun j m=>
 aA (aI .eql (.ptr 2) j .bY m) fun n o=>
 Out.nor (ss 6 n fr) o
def axR(fr:F)(h:Hp):Out:=
 gtO (ge 0 fr) fun a=>aA (apN a h) fun b c=>
 aA (ayJ [b] c) fun d i=>
 aA (Zl Tryz.prog 141 d i) fun j m=>
 aA (aK a m) fun n o=>
 aA (aC 0 n o) fun p q=>
 aA (aO 1 p j q) fun _ r=>
 Out.nor fr r
def axQ(fr:F)(h:Hp):Out:=
 gtO (ge 0 fr) fun a=>aA (aK a h) fun b c=>
 aA (aC 0 b c) fun d i=>
 aA (aF d i) fun j m=>
 aA (aI .neq (.ptr 2) j a m) fun n o=>
 Out.nor (ss 19 n fr) o
def ao3:F→Hp→Out:=(aB alJ (aV (.tmp 6) axR (aB axQ (aV (.tmp 19) aQd Out.nor))))
def ahq:Fun:=bG Tryz.prog (kp [0,6,19]) Tryz.f173.ntmps [] ao3
theorem aG1(x0:V)(h:Hp):ahq [x0] h=aT Tryz.prog [] (ao3 (ss 0 x0 T.nil) h):=by kernel_rfl
theorem aGV:aJ Tryz.prog aN 173 ahq:=prX aP [] [] (aW aPl bH) Tryz.func173
def ax2(fr:F)(h:Hp):Out:=
 Out.nor (ss 5 .oJ (ss 4 (.int .i64 0) fr)) h
def ax1(fr:F)(h:Hp):Out:=
 gtO (ge 0 fr) fun a=>aA (ahq [a] h) fun b c=>
 Out.nor fr c
def ax0(fr:F)(h:Hp):Out:=
 gtO (ge 0 fr) fun a=>aA (aK a h) fun b c=>
 aA (aC 1 b c) fun d i=>
 aA (aF d i) fun j m=>
 gtO (ge 1 fr) fun n=>aA (bT 5 1 1 j n m) fun o p=>
 aA (aK a p) fun q r=>
 aA (aC 1 q r) fun s t=>
 aA (aO 1 s o t) fun _ u=>
 Out.nor fr u
def axZ(fr:F)(h:Hp):Out:=
 gtO (ge 1 fr) fun a=>aA (aY 1 a h) fun b c=>
 Out.nor (ss 5 .oJ (ss 4 b fr)) c
def aya:F→Hp→Out:=(aB ax2 (aB ax1 (aB ax0 (aB axZ Out.ret))))
def zf:Fun:=bG Tryz.prog (kp [0,1,4,5]) Tryz.f96.ntmps [.tmp 4,.tmp 5] aya
theorem aG2(x0 x1:V)(h:Hp):zf [x0,x1] h=aT Tryz.prog [.tmp 4,.tmp 5] (aya (ss 1 x1 (ss 0 x0 T.nil)) h):=by kernel_rfl
theorem apg:aJ Tryz.prog aN 96 zf:=prX aP [] [] (aW aGV bH) Tryz.func96
def ayI:Fun:=ae2 5
theorem aPk:aJ Tryz.prog aN 384 ayI:=arH (ps:=Tryz.f384.params) Tryz.func384 (by kernel_rfl) (by kernel_rfl) (by kernel_rfl) Tryz.underlying43 (by kernel_rfl)
def axP(fr:F)(h:Hp):Out:=
 gtO (ge 0 fr) fun a=>aA (aK a (aH 0 h)) fun b _=>
 aA (aC 1 b (aH 0 h)) fun c _=>
 aA (aF c (aH 0 h)) fun d _=>
 aA (apR d (aH 0 h)) fun i j=>
 aA (aI .mul .none (.int .i64 2) i j) fun m _=>
 gtO (ge 1 fr) fun n=>aA (aI .add .none m n j) fun o _=>
 aA (ayI [o] j) fun p q=>
 gtO (ge 0 fr) fun r=>aA (aK r q) fun s _=>
 aA (aC 1 s q) fun t _=>
 aA (aF t q) fun u _=>chk (fun h=>aF t h) u (
 aA (aY 2 u q) fun v _=>
 aA (eX 1 p none (some v) none q) fun w _=>
 Out.nor (ss 4 w fr) q) 2 [j,(aH 0 h)]
def axO(fr:F)(h:Hp):Out:=
 gtO (ge 4 fr) fun a=>gtO (ge 0 fr) fun b=>aA (aK b h) fun c d=>
 aA (aC 1 c d) fun i j=>
 aA (aF i j) fun m n=>
 aA (amQ 1 a m n) fun o p=>
 Out.nor fr p
def axN(fr:F)(h:Hp):Out:=
 gtO (ge 0 fr) fun a=>gtO (ge 4 fr) fun b=>aA (aK a h) fun c d=>
 aA (aC 1 c d) fun i j=>
 aA (aO 1 i b j) fun _ m=>
 Out.nor fr m
def ax9:F→Hp→Out:=(aB axP (aB axO axN))
def apw:Fun:=bG Tryz.prog (kp [0,1,4]) Tryz.f303.ntmps [] ax9
theorem aG0(x0 x1:V)(h:Hp):apw [x0,x1] h=aT Tryz.prog [] (ax9 (ss 1 x1 (ss 0 x0 T.nil)) h):=by kernel_rfl
theorem aPm:aJ Tryz.prog aN 303 apw:=prX aP [] [(0,[0,1,3,7,15,31,0,127,255,0,512,1536,3584,7680,16383,32767],fO [0,16,32,51,66,80,96,112,130,144,160,176,197,208,224,240])] (aW aPk bH) Tryz.func303
def alM(fr:F)(h:Hp):Out:=
 gtO (ge 0 fr) fun a=>aA (ahq [a] h) fun b c=>
 Out.nor fr c
def alL:=r1 7 1 fun a h=>aI .lss .none a (.int .i64 0) h
def alK(fr:F)(h:Hp):Out:=
 gtO (ge 0 fr) fun a=>aA (aK a (aH 0 h)) fun b _=>
 aA (aC 1 b (aH 0 h)) fun c _=>
 aA (aF c (aH 0 h)) fun d _=>
 aA (apR d (aH 0 h)) fun i j=>
 gtO (ge 0 fr) fun m=>aA (aK m j) fun n _=>
 aA (aC 1 n j) fun o _=>
 aA (aF o j) fun p _=>chk (fun h=>aF o h) p (
 aA (aY 2 p j) fun q _=>
 aA (aI .sub .none i q j) fun r _=>
 gtO (ge 1 fr) fun s=>aA (aI .lss .none r s j) fun t _=>
 Out.nor (ss 21 t fr) j) 1 [(aH 0 h)]
def axS(fr:F)(h:Hp):Out:=
 gtO (ge 0 fr) fun a=>gtO (ge 1 fr) fun b=>aA (apw [a,b] h) fun c d=>
 Out.nor fr d
def ao5:F→Hp→Out:=(aB alM (aB (aB alL (aV (.tmp 7) zz Out.nor)) (aB alK (aV (.tmp 21) axS Out.nor))))
def apx:Fun:=bG Tryz.prog (kp [0,1,7,21]) Tryz.f204.ntmps [] ao5
theorem asO(x0 x1:V)(h:Hp):apx [x0,x1] h=aT Tryz.prog [] (ao5 (ss 1 x1 (ss 0 x0 T.nil)) h):=by kernel_rfl
theorem aPo:aJ Tryz.prog aN 204 apx:=prX aP [2] [(3,[0,1,3,7,15,0,32,96,224,480,1023,0,4095],fO [0,16,32,51,66,80,96,112,132,144,160,176,192])] (aW aGV (aW aPm bH)) Tryz.func204
def alO:=rC 2 (.str [])
def alN(fr:F)(h:Hp):Out:=
 gtO (ge 0 fr) fun a=>aA (aK a (aH 0 h)) fun b _=>
 aA (aC 1 b (aH 0 h)) fun c _=>
 aA (aF c (aH 0 h)) fun d _=>
 aA (Dk d (aH 0 h)) fun i j=>
 gtO (ge 0 fr) fun m=>aA (aK m j) fun n _=>
 aA (aC 1 n j) fun o _=>
 aA (aF o j) fun p _=>chk (fun h=>aF o h) p (
 aA (aY 2 p j) fun q _=>
 aA (H7 5 i q j) fun r s=>
 Out.nor (ss 2 r fr) s) 1 [(aH 0 h)]
def ao6:F→Hp→Out:=(aB alO (aB alN Out.ret))
def JM:Fun:=bG Tryz.prog (kp [0,2]) Tryz.f99.ntmps [.tmp 2] ao6
theorem asP(x0:V)(h:Hp):JM [x0] h=aT Tryz.prog [.tmp 2] (ao6 (ss 0 x0 T.nil) h):=by kernel_rfl
theorem ayp:aJ Tryz.prog aN 99 JM:=prX aP [] [(1,[0,1,3,7,15,0,32,96,224,480,1023,2047],fO [0,16,32,51,66,80,96,112,132,144,162,176])] bH Tryz.func99
def aah:=rC 4 (.str [])
def aag:=r1 12 0 fun a h=>aY 2 a h
def aaf:=r1 13 12 fun a h=>aI .eql .none a (.int .i64 0) h
def aB2:=rC 4 (.str [])
def ah6:=r1 15 12 fun a h=>aI .eql .none a (.int .i64 1) h
def aB1(fr:F)(h:Hp):Out:=
 gtO (ge 0 fr) fun a=>aA (bU 1 a (.int .i64 0) h) fun b c=>
 aA (aF b c) fun d i=>
 Out.nor (ss 4 d fr) i
def aqN:=rC 5 (.int .i64 0)
def aqM(fr:F)(h:Hp):Out:=
 gtO (ge 1 fr) fun a=>aA (aY 1 a h) fun b c=>
 aA (aI .gtr .none b (.int .i64 0) c) fun d i=>
 Out.nor (ss 22 d fr) i
def aB0(fr:F)(h:Hp):Out:=
 gtO (ge 1 fr) fun a=>aA (aY 1 a h) fun b c=>
 gtO (ge 0 fr) fun d=>aA (aY 2 d c) fun i j=>
 aA (aI .sub .none i (.int .i64 1) j) fun m n=>
 aA (aI .quo .none (.int .i64 9223372036854775807) m n) fun o p=>
 aA (aI .geq .none b o p) fun q r=>
 Out.nor (ss 29 q fr) r
def axM(fr:F)(h:Hp):Out:=
 gtO (ge 5 fr) fun a=>gtO (ge 1 fr) fun b=>aA (aY 1 b h) fun c d=>
 gtO (ge 0 fr) fun i=>aA (aY 2 i d) fun j m=>
 aA (aI .sub .none j (.int .i64 1) m) fun n o=>
 aA (aI .mul .none c n o) fun p q=>
 aA (aI .add .none a p q) fun r s=>
 Out.nor (ss 5 r fr) s
def alF(fr:F)(h:Hp):Out:=
 gtO (ge 0 fr) fun a=>aA (aY 2 a h) fun b c=>
 Out.nor (ss 41 (.int .i64 0) (ss 40 b (ss 39 a fr))) c
def alE:=r2 42 41 40 fun a b h=>aI .lss .none a b h
def axL(fr:F)(h:Hp):Out:=
 gtO (ge 39 fr) fun a=>gtO (ge 41 fr) fun b=>aA (bU 1 a b h) fun c d=>
 aA (aF c d) fun i j=>
 Out.nor (ss 7 i fr) j
def axK(fr:F)(h:Hp):Out:=
 gtO (ge 7 fr) fun a=>aA (aY 1 a h) fun b c=>
 gtO (ge 5 fr) fun d=>aA (aI .sub .none (.int .i64 9223372036854775807) d c) fun i j=>
 aA (aI .gtr .none b i j) fun m n=>
 Out.nor (ss 49 m fr) n
def axJ(fr:F)(h:Hp):Out:=
 gtO (ge 5 fr) fun a=>gtO (ge 7 fr) fun b=>aA (aY 1 b h) fun c d=>
 aA (aI .add .none a c d) fun i j=>
 Out.nor (ss 5 i fr) j
def axI:=r1 41 41 fun a h=>aI .add .none a (.int .i64 1) h
def alD(fr:F)(h:Hp):Out:=
 aA (fC 141 [.bY,.aG] h) fun a b=>
 Out.nor (ss 8 a fr) b
def alC(fr:F)(h:Hp):Out:=
 gtO (ge 5 fr) fun a=>gtO (ge 8 fr) fun b=>aA (apx [b,a] h) fun c d=>
 Out.nor fr d
def alB(fr:F)(h:Hp):Out:=
 gtO (ge 0 fr) fun a=>aA (bU 1 a (.int .i64 0) h) fun b c=>
 aA (aF b c) fun d i=>
 gtO (ge 8 fr) fun j=>aA (zf [j,d] i) fun m n=>
 Out.nor fr n
def alA(fr:F)(h:Hp):Out:=
 gtO (ge 0 fr) fun a=>aA (eX 1 a (some (.int .i64 1)) none none h) fun b c=>
 aA (aY 2 b c) fun d i=>
 Out.nor (ss 65 (.int .i64 0) (ss 64 d (ss 63 b fr))) i
def alz:=r2 66 65 64 fun a b h=>aI .lss .none a b h
def axH(fr:F)(h:Hp):Out:=
 gtO (ge 63 fr) fun a=>gtO (ge 65 fr) fun b=>aA (bU 1 a b h) fun c d=>
 aA (aF c d) fun i j=>
 Out.nor (ss 10 i fr) j
def axG(fr:F)(h:Hp):Out:=
 gtO (ge 1 fr) fun a=>gtO (ge 8 fr) fun b=>aA (zf [b,a] h) fun c d=>
 Out.nor fr d
def axF(fr:F)(h:Hp):Out:=
 gtO (ge 10 fr) fun a=>gtO (ge 8 fr) fun b=>aA (zf [b,a] h) fun c d=>
 Out.nor fr d
def axE:=r1 65 65 fun a h=>aI .add .none a (.int .i64 1) h
def aly:=r1 4 8 fun a h=>JM [a] h
def acD:F→Hp→Out:=(aB alE (aB (aV (.tmp 42) Out.nor (Out.ex 1)) (aB (bP 2 (aB axL (aB (aB axK (aV (.tmp 49) zz Out.nor)) axJ))) axI)))
def acC:F→Hp→Out:=(aB alz (aB (aV (.tmp 66) Out.nor (Out.ex 3)) (aB (bP 4 (aB axH (aB axG axF))) axE)))
def ah8:F→Hp→Out:=(aB aah (aB (aB aag (bP 0 (aB aaf (aV (.tmp 13) (aB aB2 Out.ret) (aB ah6 (aV (.tmp 15) (aB aB1 Out.ret) Out.nor)))))) (aB aqN (aB (aB aqM (aV (.tmp 22) (aB (aB aB0 (aV (.tmp 29) zz Out.nor)) axM) Out.nor)) (aB (aB alF (bP 1 (dI acD lf))) (aB alD (aB alC (aB alB (aB (aB alA (bP 3 (dI acC lf))) (aB aly Out.ret))))))))))
def aic:Fun:=bG Tryz.prog (kp [0,1,4,5,7,8,10,12,13,15,22,29,39,40,41,42,49,63,64,65,66]) Tryz.f128.ntmps [.tmp 4] ah8
theorem aI5(x0 x1:V)(h:Hp):aic [x0,x1] h=aT Tryz.prog [.tmp 4] (ah8 (ss 1 x1 (ss 0 x0 T.nil)) h):=by kernel_rfl
theorem aEd:aJ Tryz.prog aN 128 aic:=prX aP [9,15] [] (aW aPo (aW apg (aW ayp bH))) Tryz.func128
def aCe(fr:F)(h:Hp):Out:=
 gtO (ge 1 fr) fun a=>aA (aic [a,(.str [32])] (aH 0 h)) fun b c=>
 gtO (ge 0 fr) fun d=>aA (aK d c) fun i _=>
 aA (aC 5 i c) fun j _=>
 aA (zf [j,b] c) fun m n=>
 Out.nor fr n
def aCd(fr:F)(h:Hp):Out:=
 gtO (ge 0 fr) fun a=>aA (aK a h) fun b c=>
 aA (aC 5 b c) fun d i=>
 aA (zf [d,(.str [13,10])] i) fun j m=>
 Out.nor fr m
def aDY:F→Hp→Out:=(aB aCe aCd)
def AP:Fun:=bG Tryz.prog (kp [0,1]) Tryz.f98.ntmps [] aDY
theorem aI8(x0 x1:V)(h:Hp):AP [x0,x1] h=aT Tryz.prog [] (aDY (ss 1 x1 (ss 0 x0 T.nil)) h):=by kernel_rfl
theorem aEe:aJ Tryz.prog aN 98 AP:=prX aP [] [(0,[0,1,3,0,8,31],fO [48,66,0,16,32,82])] (aW aEd (aW apg bH)) Tryz.func98
def aB5(fr:F)(h:Hp):Out:=
 aA (fC 62 [(.str []),(.str []),(.int .i64 0),(.int .i64 0),(.int .i64 0),(.int .i64 0),(.int .i64 0),(.int .i64 0),(.int .i64 0)] h) fun a b=>
 Out.nor (ss 2 a fr) b
def aB4:=r1 4 0 fun a h=>aI .eql (.ptr 16) a .bY h
def aB3(fr:F)(h:Hp):Out:=
 gtO (ge 0 fr) fun a=>aA (aK a h) fun b c=>
 aA (aC 0 b c) fun d i=>
 aA (bW 9 d i) fun j m=>
 gtO (ge 2 fr) fun n=>aA (aO 9 n j m) fun _ o=>
 Out.nor fr o
def aDW:F→Hp→Out:=(aB aB5 (aB (aB aB4 (aV (.tmp 4) zz Out.nor)) (aB aB3 Out.ret)))
def atU:Fun:=bG Tryz.prog (kp [0,2,4]) Tryz.f111.ntmps [.cell 2 62] aDW
theorem aI6(x0:V)(h:Hp):atU [x0] h=aT Tryz.prog [.cell 2 62] (aDW (ss 0 x0 T.nil) h):=by kernel_rfl
theorem aPS:aJ Tryz.prog aN 111 atU:=prX aP [2] [] bH Tryz.func111
def aCg(fr:F)(h:Hp):Out:=
 aA (fC 145 [(.int .i64 0),(.str []),(.bool false),(.bool false),(.bool false)] h) fun a b=>
 Out.nor (ss 0 a fr) b
def aCf(fr:F)(h:Hp):Out:=
 aA (bK [(.int .i64 0),(.str []),(.bool false),(.bool false),(.bool false)] [(0,1,(.int .i64 2)),(1,1,(.str [119,111,114,100,115]))] h) fun a b=>
 gtO (ge 0 fr) fun c=>aA (aO 5 c a b) fun _ d=>
 Out.nor fr d
def aDZ:F→Hp→Out:=(aB aCg (aB aCf Out.ret))
def atV:Fun:=bG Tryz.prog (kp [0]) Tryz.f109.ntmps [.cell 0 145] aDZ
theorem aI9(h:Hp):atV [] h=aT Tryz.prog [.cell 0 145] (aDZ T.nil h):=by kernel_rfl
theorem aPT:aJ Tryz.prog aN 109 atV:=prX aP [] [] bH Tryz.func109
def aBZ(fr:F)(h:Hp):Out:=
 aA (fC 145 [(.int .i64 0),(.str []),(.bool false),(.bool false),(.bool false)] h) fun a b=>
 Out.nor (ss 0 a fr) b
def aBY(fr:F)(h:Hp):Out:=
 aA (bK [(.int .i64 0),(.str []),(.bool false),(.bool false),(.bool false)] [(0,1,(.int .i64 1)),(1,1,(.str [115,116,97,116,101]))] h) fun a b=>
 gtO (ge 0 fr) fun c=>aA (aO 5 c a b) fun _ d=>
 Out.nor fr d
def aDV:F→Hp→Out:=(aB aBZ (aB aBY Out.ret))
def aib:Fun:=bG Tryz.prog (kp [0]) Tryz.f136.ntmps [.cell 0 145] aDV
theorem aI4(h:Hp):aib [] h=aT Tryz.prog [.cell 0 145] (aDV T.nil h):=by kernel_rfl
theorem aPR:aJ Tryz.prog aN 136 aib:=prX aP [] [] bH Tryz.func136
def alT:=rC 4 (.bool false)
def alS(fr:F)(h:Hp):Out:=
 gtO (ge 1 fr) fun a=>gtO (ge 0 fr) fun b=>aA (aY 2 b h) fun c d=>
 aA (aI .lss .none a c d) fun i j=>
 ifB i (aA (bU 3 b a j) fun m n=>
 aA (aC 0 m n) fun o p=>
 aA (aF o p) fun q r=>
 aA (aI .eql .none q (.int .i64 1) r) fun s t=>
 Out.nor (ss 4 s fr) t) (Out.nor (ss 4 (.bool false) fr) j)
def ao7:F→Hp→Out:=(aB alT (aB alS Out.ret))
def JO:Fun:=bG Tryz.prog (kp [0,1,4]) Tryz.f93.ntmps [.tmp 4] ao7
theorem aG5(x0 x1:V)(h:Hp):JO [x0,x1] h=aT Tryz.prog [.tmp 4] (ao7 (ss 1 x1 (ss 0 x0 T.nil)) h):=by kernel_rfl
theorem aGX:aJ Tryz.prog aN 93 JO:=prX aP [] [] bH Tryz.func93
def aCc(fr:F)(h:Hp):Out:=
 Out.nor (ss 5 (.bool false) (ss 4 .aG fr)) h
def aCb:=rC 6 .aG
def aCa(fr:F)(h:Hp):Out:=
 gtO (ge 0 fr) fun a=>aA (aK a h) fun b c=>
 aA (aC 3 b c) fun d i=>
 aA (aF d i) fun j m=>
 aA (aY 2 j m) fun n o=>
 Out.nor (ss 14 (.int .i64 0) (ss 13 n (ss 12 j fr))) o
def ah7:=r2 15 14 13 fun a b h=>aI .lss .none a b h
def aqP(fr:F)(h:Hp):Out:=
 gtO (ge 12 fr) fun a=>gtO (ge 14 fr) fun b=>aA (bU 3 a b h) fun c d=>
 aA (bW 3 c d) fun i j=>
 aA (fC 149 [(.int .i64 0),(.str []),.aG] j) fun m n=>
 aA (aO 3 m i n) fun _ o=>
 Out.nor (ss 8 m fr) o
def aqO(fr:F)(h:Hp):Out:=
 gtO (ge 8 fr) fun a=>aA (aC 0 a h) fun b c=>
 aA (aF b c) fun d i=>
 aA (aI .eql .none d (.int .i64 3) i) fun j m=>
 Out.nor (ss 20 j fr) m
def aB9(fr:F)(h:Hp):Out:=
 Out.nor (ss 5 (.bool false) (ss 4 .aG fr)) h
def aB8(fr:F)(h:Hp):Out:=
 gtO (ge 6 fr) fun a=>gtO (ge 8 fr) fun b=>aA (aC 1 b h) fun c d=>
 aA (aF c d) fun i j=>
 aA (bI 9 [(.str [])] 1 [(0,1,i)] j) fun m n=>
 aA (bT 9 1 16 a m n) fun o p=>
 Out.nor (ss 6 o fr) p
def aB7:=r1 14 14 fun a h=>aI .add .none a (.int .i64 1) h
def aB6(fr:F)(h:Hp):Out:=
 gtO (ge 6 fr) fun a=>aA (aY 2 a h) fun b c=>
 gtO (ge 1 fr) fun d=>aA (aI .eql .none b d c) fun i j=>
 Out.nor (ss 5 i (ss 4 a fr)) j
def ah9:F→Hp→Out:=(aB ah7 (aB (aV (.tmp 15) Out.nor (Out.ex 0)) (aB (bP 1 (aB aqP (aB (aB aqO (aV (.tmp 20) (aB aB9 Out.ret) Out.nor)) aB8))) aB7)))
def aDX:F→Hp→Out:=(aB aCc (aB aCb (aB (aB aCa (bP 0 (dI ah9 lf))) (aB aB6 Out.ret))))
def XJ:Fun:=bG Tryz.prog (kp [0,1,4,5,6,8,12,13,14,15,20]) Tryz.f110.ntmps [.tmp 4,.tmp 5] aDX
theorem aI7(x0 x1:V)(h:Hp):XJ [x0,x1] h=aT Tryz.prog [.tmp 4,.tmp 5] (aDX (ss 1 x1 (ss 0 x0 T.nil)) h):=by kernel_rfl
theorem aJs:aJ Tryz.prog aN 110 XJ:=prX aP [] [] bH Tryz.func110
def aqU(fr:F)(h:Hp):Out:=
 aA (fC 145 [(.int .i64 0),(.str []),(.bool false),(.bool false),(.bool false)] h) fun a b=>
 Out.nor (ss 4 a fr) b
def aqT(fr:F)(h:Hp):Out:=
 gtO (ge 1 fr) fun a=>aA (aK a h) fun b c=>
 aA (aC 3 b c) fun d i=>
 aA (aF d i) fun j m=>
 aA (aY 2 j m) fun n o=>
 aA (aI .gtr .none n (.int .i64 0) o) fun p q=>
 Out.nor (ss 10 p fr) q
def aCq(fr:F)(h:Hp):Out:=
 aA (atV [] h) fun a b=>
 gtO (ge 4 fr) fun c=>aA (aO 5 c a b) fun _ d=>
 Out.nor fr d
def aCp(fr:F)(h:Hp):Out:=
 gtO (ge 1 fr) fun a=>aA (bI 9 [(.str [])] 1 [(0,1,(.str [42,32,67,65,80,65,66,73,76,73,84,89,32,73,77,65,80,52,114,101,118,49,32,76,73,84,69,82,65,76,43,32,85,73,68,80,76,85,83,32,77,79,86,69,32,67,79,78,68,83,84,79,82,69]))] h) fun b c=>
 aA (AP [a,b] c) fun d i=>
 Out.nor fr i
def aCo(fr:F)(h:Hp):Out:=
 aA (bK [(.int .i64 0),(.str []),(.bool false),(.bool false),(.bool false)] [] h) fun a b=>
 gtO (ge 4 fr) fun c=>aA (aO 5 c a b) fun _ d=>
 Out.nor fr d
def ao4:F→Hp→Out:=(aB aqU (aB (aB aqT (aV (.tmp 10) (aB aCq Out.ret) Out.nor)) (aB aCp (aB aCo Out.ret))))
def aEl:Fun:=bG Tryz.prog (kp [1,4,10]) Tryz.f57.ntmps [.cell 4 145] ao4
theorem aJc(x0 x1:V)(h:Hp):aEl [x0,x1] h=aT Tryz.prog [.cell 4 145] (ao4 (ss 1 x1 T.nil) h):=by kernel_rfl
theorem aQt:aJ Tryz.prog aN 57 aEl:=prX aP [] [] (aW aPT (aW aEe bH)) Tryz.func57
def aCn(fr:F)(h:Hp):Out:=
 aA (fC 145 [(.int .i64 0),(.str []),(.bool false),(.bool false),(.bool false)] h) fun a b=>
 Out.nor (ss 4 a fr) b
def aCm(fr:F)(h:Hp):Out:=
 gtO (ge 1 fr) fun a=>aA (XJ [a,(.int .i64 2)] h) fun b c=>
 aA (bJ 0 b c) fun d i=>
 aA (bJ 1 b i) fun j m=>
 Out.nor (ss 6 j (ss 5 d fr)) m
def aCl:=r1 14 6 fun a h=>oUn .not a h
def aCk(fr:F)(h:Hp):Out:=
 gtO (ge 1 fr) fun a=>aA (aK a h) fun b c=>
 aA (aC 1 b c) fun d i=>
 aA (aF d i) fun j m=>
 aA (atU [j] m) fun n o=>
 aA (fC 62 [(.str []),(.str []),(.int .i64 0),(.int .i64 0),(.int .i64 0),(.int .i64 0),(.int .i64 0),(.int .i64 0),(.int .i64 0)] o) fun p q=>
 aA (aO 9 p n q) fun _ r=>
 Out.nor (ss 7 p fr) r
def aCj(fr:F)(h:Hp):Out:=
 gtO (ge 5 fr) fun a=>aA (bU 1 a (.int .i64 0) (aH 0 h)) fun b _=>
 aA (aF b (aH 0 h)) fun c _=>
 gtO (ge 7 fr) fun d=>aA (aC 0 d (aH 0 h)) fun i _=>
 aA (aF i (aH 0 h)) fun j _=>
 aA (aI .neq .none c j (aH 0 h)) fun m _=>
 ifB m (Out.nor (ss 34 (.bool true) fr) (aH 0 h)) (gtO (ge 5 fr) fun n=>aA (bU 1 n (.int .i64 1) (aH 0 h)) fun o _=>
 aA (aF o (aH 0 h)) fun p _=>
 gtO (ge 7 fr) fun q=>aA (aC 1 q (aH 0 h)) fun r _=>
 aA (aF r (aH 0 h)) fun s _=>
 aA (aI .neq .none p s (aH 0 h)) fun t _=>
 Out.nor (ss 34 t fr) (aH 0 h))
def aCi(fr:F)(h:Hp):Out:=
 gtO (ge 0 fr) fun a=>aA (aK a h) fun b c=>
 aA (aC 0 b c) fun d i=>
 aA (aO 1 d (.bool true) i) fun _ j=>
 Out.nor fr j
def aCh(fr:F)(h:Hp):Out:=
 aA (bK [(.int .i64 0),(.str []),(.bool false),(.bool false),(.bool false)] [] h) fun a b=>
 gtO (ge 4 fr) fun c=>aA (aO 5 c a b) fun _ d=>
 Out.nor fr d
def aD1:F→Hp→Out:=(aB aCn (aB aCm (aB (aB aCl (aV (.tmp 14) zz Out.nor)) (aB (aB aCk (aB aCj (aV (.tmp 34) zz Out.nor))) (aB aCi (aB aCh Out.ret))))))
def atW:Fun:=bG Tryz.prog (kp [0,1,4,5,6,7,14,34]) Tryz.f60.ntmps [.cell 4 145] aD1
theorem aJb(x0 x1:V)(h:Hp):atW [x0,x1] h=aT Tryz.prog [.cell 4 145] (aD1 (ss 1 x1 (ss 0 x0 T.nil)) h):=by kernel_rfl
theorem aPV:aJ Tryz.prog aN 60 atW:=prX aP [3,6] [(5,[0,1,3,0,8,31,63,127,255,511,127,1151,4095,8191],fO [0,16,35,48,67,80,96,112,128,147,160,179,192,208])] (aW aJs (aW aPS bH)) Tryz.func60
abbrev zB:Fun:=Ik.anO
theorem azq:aJ Tryz.prog aN 120 zB:=Ik.aDK
def ZM(fr:F)(h:Hp):Out:=
 gtO (ge 1 fr) fun a=>aA (fV 3 a h) fun b c=>
 Out.nor (ss 4 (.int .i64 0) (ss 3 b fr)) c
def ZL(fr:F)(h:Hp):Out:=
 gtO (ge 0 fr) fun a=>gtO (ge 3 fr) fun b=>aA (fK (.func 301) [] [b] h) fun c d=>
 aA (kE [a,c] d) fun i j=>
 Out.nor (ss 4 i fr) j
def VU:F→Hp→Out:=(aB ZM (aB ZL Out.ret))
def JF:Fun:=bG Tryz.prog (kp [0,1,3,4]) Tryz.f201.ntmps [.tmp 4] VU
theorem apq(x0 x1:V)(h:Hp):JF [x0,x1] h=aT Tryz.prog [.tmp 4] (VU (ss 1 x1 (ss 0 x0 T.nil)) h):=by kernel_rfl
theorem ayh:aJ Tryz.prog aN 201 JF:=prX aP [] [] (aW vW bH) Tryz.func201
def IL(fr:F)(h:Hp):Out:=
 gtO (ge 0 fr) fun a=>aA (aY 2 a h) fun b c=>
 aA (aI .sub .none b (.int .i64 1) c) fun d i=>
 Out.nor (ss 3 d (ss 2 (.int .i64 0) fr)) i
def IK:=r2 9 2 3 fun a b h=>aI .lss .none a b h
def JB:F→Hp→Out:=(aB (aB IK (aV (.tmp 9) Out.nor (Out.ex 0))) zz)
def uQ:F→Hp→Out:=(aB IL (bP 0 (dI JB lf)))
def uX:Fun:=bG Tryz.prog (kp [0,2,3,9]) Tryz.f202.ntmps [] uQ
theorem aaq(x0:V)(h:Hp):uX [x0] h=aT Tryz.prog [] (uQ (ss 0 x0 T.nil) h):=by kernel_rfl
theorem ahe:aJ Tryz.prog aN 202 uX:=prX aP [3,2] [] bH Tryz.func202
def ai8:=rC 4 (.str [])
def ai7:=rC 5 .aG
def ai6:=r2 6 0 1 fun a b h=>JF [a,b] h
def ai5(fr:F)(h:Hp):Out:=
 gtO (ge 6 fr) fun a=>aA (aI .lss .none a (.int .i64 0) h) fun b c=>
 ifB b (Out.nor (ss 18 (.bool true) fr) c) (gtO (ge 5 fr) fun d=>aA (aY 2 d c) fun i j=>
 gtO (ge 0 fr) fun m=>aA (aY 2 m j) fun n o=>
 aA (aI .eql .none i n o) fun p q=>
 Out.nor (ss 18 p fr) q)
def ai4(fr:F)(h:Hp):Out:=
 gtO (ge 5 fr) fun a=>gtO (ge 0 fr) fun b=>gtO (ge 6 fr) fun c=>aA (bU 6 b c h) fun d i=>
 aA (aC 1 d i) fun j m=>
 aA (aF j m) fun n o=>
 aA (bI 9 [(.str [])] 1 [(0,1,n)] o) fun p q=>
 aA (bT 9 1 16 a p q) fun r s=>
 Out.nor (ss 5 r fr) s
def ai3(fr:F)(h:Hp):Out:=
 gtO (ge 0 fr) fun a=>gtO (ge 6 fr) fun b=>aA (bU 6 a b h) fun c d=>
 aA (aC 2 c d) fun i j=>
 aA (aF i j) fun m n=>
 Out.nor (ss 1 m fr) n
def ai2:=r1 33 1 fun a h=>aI .eql .none a (.int .i64 0) h
def ai1(fr:F)(h:Hp):Out:=
 gtO (ge 5 fr) fun a=>aA (uX [a] h) fun b c=>
 Out.nor fr c
def ai0:=r1 4 5 fun a h=>aic [a,(.str [47])] h
def akd:F→Hp→Out:=(bP 1 (aB ai6 (aB (aB ai5 (aV (.tmp 18) zz Out.nor)) (aB ai4 (aB ai3 (aB ai2 (aV (.tmp 33) (Out.ex 0) Out.nor)))))))
def Xu:F→Hp→Out:=(aB ai8 (aB ai7 (aB Out.nor (aB (bP 0 (dI akd lf)) (aB ai1 (aB ai0 Out.ret))))))
def XB:Fun:=bG Tryz.prog (kp [0,1,4,5,6,18,33]) Tryz.f122.ntmps [.tmp 4] Xu
theorem ayu(x0 x1:V)(h:Hp):XB [x0,x1] h=aT Tryz.prog [.tmp 4] (Xu (ss 1 x1 (ss 0 x0 T.nil)) h):=by kernel_rfl
theorem aGI:aJ Tryz.prog aN 122 XB:=prX aP [4] [] (aW ayh (aW ahe (aW aEd bH))) Tryz.func122
def Yt(fr:F)(h:Hp):Out:=
 Out.nor (ss 5 (.bool false) (ss 4 (.int .i64 0) fr)) h
def X9(fr:F)(h:Hp):Out:=
 gtO (ge 1 fr) fun a=>aA (zh [a] h) fun b c=>
 aA (zh [(.str [73,78,66,79,88])] c) fun d i=>
 aA (aI .eql .none b d i) fun j m=>
 Out.nor (ss 11 j fr) m
def ajc:=rC 1 (.str [73,78,66,79,88])
def X8(fr:F)(h:Hp):Out:=
 gtO (ge 0 fr) fun a=>aA (aY 2 a h) fun b c=>
 Out.nor (ss 14 (.int .i64 0) (ss 13 b (ss 12 a fr))) c
def ajb:=r2 15 14 13 fun a b h=>aI .lss .none a b h
def X7(fr:F)(h:Hp):Out:=
 gtO (ge 12 fr) fun a=>gtO (ge 14 fr) fun b=>aA (bU 6 a b h) fun c d=>
 aA (bW 6 c d) fun i j=>
 aA (fC 55 [(.int .i64 0),(.str []),(.int .i64 0),(.int .i64 0),(.int .i64 0),(.int .i64 0)] j) fun m n=>
 aA (aO 6 m i n) fun _ o=>
 Out.nor (ss 7 m fr) o
def X6(fr:F)(h:Hp):Out:=
 gtO (ge 1 fr) fun a=>aA (aI .neq .none a (.str []) h) fun b c=>
 ifB b (gtO (ge 0 fr) fun d=>gtO (ge 7 fr) fun i=>aA (aC 0 i c) fun j m=>
 aA (aF j m) fun n o=>
 aA (XB [d,n] o) fun p q=>
 aA (aI .eql .none p a q) fun r s=>
 Out.nor (ss 27 r fr) s) (Out.nor (ss 27 (.bool false) fr) c)
def aja(fr:F)(h:Hp):Out:=
 gtO (ge 7 fr) fun a=>aA (aC 0 a h) fun b c=>
 aA (aF b c) fun d i=>
 Out.nor (ss 5 (.bool true) (ss 4 d fr)) i
def ai9:=r1 14 14 fun a h=>aI .add .none a (.int .i64 1) h
def X4(fr:F)(h:Hp):Out:=
 Out.nor (ss 5 (.bool false) (ss 4 (.int .i64 0) fr)) h
def ake:F→Hp→Out:=(aB ajb (aB (aV (.tmp 15) Out.nor (Out.ex 0)) (aB (bP 1 (aB X7 (aB X6 (aV (.tmp 27) (aB aja Out.ret) Out.nor)))) ai9)))
def PD:F→Hp→Out:=(aB Yt (aB (aB X9 (aV (.tmp 11) ajc Out.nor)) (aB (aB X8 (bP 0 (dI ake lf))) (aB X4 Out.ret))))
def XC:Fun:=bG Tryz.prog (kp [0,1,4,5,7,11,12,13,14,15,27]) Tryz.f187.ntmps [.tmp 4,.tmp 5] PD
theorem ayv(x0 x1:V)(h:Hp):XC [x0,x1] h=aT Tryz.prog [.tmp 4,.tmp 5] (PD (ss 1 x1 (ss 0 x0 T.nil)) h):=by kernel_rfl
theorem aGJ:aJ Tryz.prog aN 187 XC:=prX aP [] [] (aW ahh (aW aGI bH)) Tryz.func187
def YC(fr:F)(h:Hp):Out:=
 Out.nor (ss 5 (.int .i64 0) (ss 4 (.int .i64 0) fr)) h
def YB(fr:F)(h:Hp):Out:=
 gtO (ge 1 fr) fun a=>aA (zB [a] h) fun b c=>
 aA (bJ 0 b c) fun d i=>
 aA (bJ 1 b i) fun j m=>
 Out.nor (ss 7 j (ss 6 d fr)) m
def YA:=r1 16 7 fun a h=>aI .neq .none a (.int .i64 0) h
def Yz(fr:F)(h:Hp):Out:=
 gtO (ge 0 fr) fun a=>aA (aK a h) fun b c=>
 aA (aC 1 b c) fun d i=>
 aA (aF d i) fun j m=>
 aA (yw [j] m) fun n o=>
 gtO (ge 6 fr) fun p=>aA (XC [n,p] o) fun q r=>
 aA (bJ 0 q r) fun s t=>
 aA (bJ 1 q t) fun u v=>
 Out.nor (ss 9 u (ss 8 s fr)) v
def Yy:=r1 29 9 fun a h=>oUn .not a h
def ajG(fr:F)(h:Hp):Out:=
 Out.nor (ss 5 (.int .i64 6) (ss 4 (.int .i64 0) fr)) h
def ajF(fr:F)(h:Hp):Out:=
 gtO (ge 8 fr) fun a=>Out.nor (ss 5 (.int .i64 0) (ss 4 a fr)) h
def Xx:F→Hp→Out:=(aB YC (aB YB (aB (aB YA (aV (.tmp 16) zz Out.nor)) (aB Yz (aB (aB Yy (aV (.tmp 29) (aB ajG Out.ret) Out.nor)) (aB ajF Out.ret))))))
def PX:Fun:=bG Tryz.prog (kp [0,1,4,5,6,7,8,9,16,29]) Tryz.f116.ntmps [.tmp 4,.tmp 5] Xx
theorem ahn(x0 x1:V)(h:Hp):PX [x0,x1] h=aT Tryz.prog [.tmp 4,.tmp 5] (Xx (ss 1 x1 (ss 0 x0 T.nil)) h):=by kernel_rfl
theorem aGR:aJ Tryz.prog aN 116 PX:=prX aP [3] [] (aW azq (aW Tv (aW aGJ bH))) Tryz.func116
abbrev lK:Fun:=Ik.axt
theorem YO:aJ Tryz.prog aN 126 lK:=Ik.aIC
def ad3(fr:F)(h:Hp):Out:=
 aA (fC 145 [(.int .i64 0),(.str []),(.bool false),(.bool false),(.bool false)] h) fun a b=>
 Out.nor (ss 2 a fr) b
def ad2(fr:F)(h:Hp):Out:=
 gtO (ge 0 fr) fun a=>aA (lK [a] h) fun b c=>
 aA (aI .add .none (.str [101,114,114,111,114,32]) b c) fun d i=>
 aA (bK [(.int .i64 0),(.str []),(.bool false),(.bool false),(.bool false)] [(0,1,(.int .i64 1)),(1,1,d)] i) fun j m=>
 gtO (ge 2 fr) fun n=>aA (aO 5 n j m) fun _ o=>
 Out.nor fr o
def YN:F→Hp→Out:=(aB ad3 (aB ad2 Out.ret))
def N7:Fun:=bG Tryz.prog (kp [0,2]) Tryz.f118.ntmps [.cell 2 145] YN
theorem arb(x0:V)(h:Hp):N7 [x0] h=aT Tryz.prog [.cell 2 145] (YN (ss 0 x0 T.nil) h):=by kernel_rfl
theorem azB:aJ Tryz.prog aN 118 N7:=prX aP [] [] (aW YO bH) Tryz.func118
def aoV(fr:F)(h:Hp):Out:=
 gtO (ge 1 fr) fun a=>aA (fV 3 a h) fun b c=>
 aA (fC 55 [(.int .i64 0),(.str []),(.int .i64 0),(.int .i64 0),(.int .i64 0),(.int .i64 0)] c) fun d i=>
 Out.nor (ss 4 d (ss 3 b fr)) i
def aoU(fr:F)(h:Hp):Out:=
 gtO (ge 0 fr) fun a=>aA (aK a h) fun b c=>
 aA (aC 1 b c) fun d i=>
 aA (aF d i) fun j m=>
 aA (yw [j] m) fun n o=>
 Out.nor (ss 5 n fr) o
def aoT(fr:F)(h:Hp):Out:=
 gtO (ge 5 fr) fun a=>gtO (ge 3 fr) fun b=>aA (fK (.func 208) [] [b] h) fun c d=>
 aA (kE [a,c] d) fun i j=>
 aA (bU 6 a i j) fun m n=>
 aA (bW 6 m n) fun o p=>
 gtO (ge 4 fr) fun q=>aA (aO 6 q o p) fun _ r=>
 Out.nor fr r
def al3:F→Hp→Out:=(aB aoV (aB aoU (aB aoT Out.ret)))
def acO:Fun:=bG Tryz.prog (kp [0,1,3,4,5]) Tryz.f125.ntmps [.cell 4 55] al3
theorem azR(x0 x1:V)(h:Hp):acO [x0,x1] h=aT Tryz.prog [.cell 4 55] (al3 (ss 1 x1 (ss 0 x0 T.nil)) h):=by kernel_rfl
theorem aI1:aJ Tryz.prog aN 125 acO:=prX aP [] [] (aW Tv (aW vW bH)) Tryz.func125
def Fh(fr:F)(h:Hp):Out:=
 aA (fC 145 [(.int .i64 0),(.str []),(.bool false),(.bool false),(.bool false)] h) fun a b=>
 Out.nor (ss 6 a fr) b
def Fe(fr:F)(h:Hp):Out:=
 gtO (ge 1 fr) fun a=>aA (XJ [a,(.int .i64 1)] h) fun b c=>
 aA (bJ 0 b c) fun d i=>
 aA (bJ 1 b i) fun j m=>
 Out.nor (ss 8 j (ss 7 d fr)) m
def Fb:=r1 18 8 fun a h=>oUn .not a h
def E8(fr:F)(h:Hp):Out:=
 gtO (ge 0 fr) fun a=>aA (aK a h) fun b c=>
 aA (aC 1 b c) fun d i=>
 aA (aO 1 d .bY i) fun _ j=>
 aA (aK a j) fun m n=>
 aA (aC 2 m n) fun o p=>
 aA (aO 1 o (.bool false) p) fun _ q=>
 Out.nor fr q
def kQ(fr:F)(h:Hp):Out:=
 gtO (ge 1 fr) fun a=>gtO (ge 7 fr) fun b=>aA (bU 1 b (.int .i64 0) h) fun c d=>
 aA (aF c d) fun i j=>
 aA (PX [a,i] j) fun m n=>
 aA (bJ 0 m n) fun o p=>
 aA (bJ 1 m p) fun q r=>
 Out.nor (ss 10 q (ss 9 o fr)) r
def EZ:=r1 35 10 fun a h=>aI .neq .none a (.int .i64 0) h
def ad4(fr:F)(h:Hp):Out:=
 gtO (ge 10 fr) fun a=>aA (N7 [a] h) fun b c=>
 gtO (ge 6 fr) fun d=>aA (aO 5 d b c) fun _ i=>
 Out.nor fr i
def Q5(fr:F)(h:Hp):Out:=
 gtO (ge 0 fr) fun a=>gtO (ge 1 fr) fun b=>aA (aK b h) fun c d=>
 aA (aC 1 c d) fun i j=>
 aA (aF i j) fun m n=>
 gtO (ge 9 fr) fun o=>aA (acE [m,o] n) fun p q=>
 aA (bJ 0 p q) fun r s=>
 aA (bJ 1 p s) fun t u=>
 aA (aK a u) fun v w=>
 aA (aC 1 v w) fun x y=>
 aA (aO 1 x r y) fun _ z=>
 Out.nor fr z
def QZ(fr:F)(h:Hp):Out:=
 gtO (ge 0 fr) fun a=>gtO (ge 2 fr) fun b=>aA (aK a h) fun c d=>
 aA (aC 2 c d) fun i j=>
 aA (aO 1 i b j) fun _ m=>
 Out.nor fr m
def MO(fr:F)(h:Hp):Out:=
 gtO (ge 1 fr) fun a=>gtO (ge 9 fr) fun b=>aA (acO [a,b] h) fun c d=>
 aA (fC 55 [(.int .i64 0),(.str []),(.int .i64 0),(.int .i64 0),(.int .i64 0),(.int .i64 0)] d) fun i j=>
 aA (aO 6 i c j) fun _ m=>
 Out.nor (ss 11 i fr) m
def MN(fr:F)(h:Hp):Out:=
 gtO (ge 1 fr) fun a=>aA (bI 9 [(.str [])] 1 [(0,1,(.str [42,32,70,76,65,71,83,32,40,92,65,110,115,119,101,114,101,100,32,92,70,108,97,103,103,101,100,32,92,68,101,108,101,116,101,100,32,92,83,101,101,110,32,92,68,114,97,102,116,41]))] h) fun b c=>
 aA (AP [a,b] c) fun d i=>
 Out.nor fr i
def ML(fr:F)(h:Hp):Out:=
 gtO (ge 1 fr) fun a=>gtO (ge 0 fr) fun b=>aA (aK b h) fun c d=>
 aA (aC 1 c d) fun i j=>
 aA (aF i j) fun m n=>
 aA (PI [m] n) fun o p=>
 aA (aY 2 o p) fun q r=>
 aA (lK [q] r) fun s t=>
 aA (bI 9 [(.str []),(.str []),(.str [])] 3 [(0,1,(.str [42])),(1,1,s),(2,1,(.str [69,88,73,83,84,83]))] t) fun u v=>
 aA (AP [a,u] v) fun w x=>
 Out.nor fr x
def MK(fr:F)(h:Hp):Out:=
 gtO (ge 1 fr) fun a=>aA (bI 9 [(.str [])] 1 [(0,1,(.str [42,32,48,32,82,69,67,69,78,84]))] h) fun b c=>
 aA (AP [a,b] c) fun d i=>
 Out.nor fr i
def MJ(fr:F)(h:Hp):Out:=
 gtO (ge 1 fr) fun a=>gtO (ge 11 fr) fun b=>aA (aC 3 b h) fun c d=>
 aA (aF c d) fun i j=>
 aA (lK [i] j) fun m n=>
 aA (aI .add .none (.str [42,32,79,75,32,91,85,73,68,86,65,76,73,68,73,84,89,32]) m n) fun o p=>
 aA (aI .add .none o (.str [93]) p) fun q r=>
 aA (bI 9 [(.str [])] 1 [(0,1,q)] r) fun s t=>
 aA (AP [a,s] t) fun u v=>
 Out.nor fr v
def MI(fr:F)(h:Hp):Out:=
 gtO (ge 1 fr) fun a=>gtO (ge 11 fr) fun b=>aA (aC 4 b h) fun c d=>
 aA (aF c d) fun i j=>
 aA (lK [i] j) fun m n=>
 aA (aI .add .none (.str [42,32,79,75,32,91,85,73,68,78,69,88,84,32]) m n) fun o p=>
 aA (aI .add .none o (.str [93]) p) fun q r=>
 aA (bI 9 [(.str [])] 1 [(0,1,q)] r) fun s t=>
 aA (AP [a,s] t) fun u v=>
 Out.nor fr v
def MH(fr:F)(h:Hp):Out:=
 gtO (ge 1 fr) fun a=>aA (aK a h) fun b c=>
 aA (aC 1 b c) fun d i=>
 aA (aF d i) fun j m=>
 aA (JI [j] m) fun n o=>
 aA (lK [n] o) fun p q=>
 aA (aI .add .none (.str [42,32,79,75,32,91,72,73,71,72,69,83,84,77,79,68,83,69,81,32]) p q) fun r s=>
 aA (aI .add .none r (.str [93]) s) fun t u=>
 aA (bI 9 [(.str [])] 1 [(0,1,t)] u) fun v w=>
 aA (AP [a,v] w) fun x y=>
 Out.nor fr y
def MG:=rM 100 2
def aac(fr:F)(h:Hp):Out:=
 aA (bK [(.int .i64 0),(.str []),(.bool false),(.bool false),(.bool false)] [(1,1,(.str [82,69,65,68,45,79,78,76,89])),(3,1,(.bool true))] h) fun a b=>
 gtO (ge 6 fr) fun c=>aA (aO 5 c a b) fun _ d=>
 Out.nor fr d
def Z9(fr:F)(h:Hp):Out:=
 aA (bK [(.int .i64 0),(.str []),(.bool false),(.bool false),(.bool false)] [(1,1,(.str [82,69,65,68,45,87,82,73,84,69])),(3,1,(.bool true))] h) fun a b=>
 gtO (ge 6 fr) fun c=>aA (aO 5 c a b) fun _ d=>
 Out.nor fr d
def EN:F→Hp→Out:=(aB Fh (aB Fe (aB (aB Fb (aV (.tmp 18) zz Out.nor)) (aB E8 (aB kQ (aB (aB EZ (aV (.tmp 35) (aB ad4 Out.ret) Out.nor)) (aB Q5 (aB QZ (aB MO (aB MN (aB ML (aB MK (aB MJ (aB MI (aB MH (aB (aB MG (aV (.tmp 100) (aB aac Out.ret) Out.nor)) (aB Z9 Out.ret)))))))))))))))))
def qI:Fun:=bG Tryz.prog (kp [0,1,2,6,7,8,9,10,11,18,35,100]) Tryz.f112.ntmps [.cell 6 145] EN
theorem aau(x0 x1 x2:V)(h:Hp):qI [x0,x1,x2] h=aT Tryz.prog [.cell 6 145] (EN (ss 2 x2 (ss 1 x1 (ss 0 x0 T.nil))) h):=by kernel_rfl
theorem aj9:aJ Tryz.prog aN 112 qI:=prX aP [3] [] (aW aJs (aW aGR (aW azB (aW aIR (aW aI1 (aW aEe (aW asJ (aW YO (aW ao8 bH))))))))) Tryz.func112
def Yx(fr:F)(h:Hp):Out:=
 aA (fC 145 [(.int .i64 0),(.str []),(.bool false),(.bool false),(.bool false)] h) fun a b=>
 Out.nor (ss 4 a fr) b
def Yw(fr:F)(h:Hp):Out:=
 gtO (ge 0 fr) fun a=>gtO (ge 1 fr) fun b=>aA (qI [a,b,(.bool false)] h) fun c d=>
 gtO (ge 4 fr) fun i=>aA (aO 5 i c d) fun _ j=>
 Out.nor fr j
def Xw:F→Hp→Out:=(aB Yx (aB Yw Out.ret))
def PW:Fun:=bG Tryz.prog (kp [0,1,4]) Tryz.f61.ntmps [.cell 4 145] Xw
theorem ahm(x0 x1:V)(h:Hp):PW [x0,x1] h=aT Tryz.prog [.cell 4 145] (Xw (ss 1 x1 (ss 0 x0 T.nil)) h):=by kernel_rfl
theorem aGQ:aJ Tryz.prog aN 61 PW:=prX aP [] [] (aW aj9 bH) Tryz.func61
def MF(fr:F)(h:Hp):Out:=
 aA (fC 145 [(.int .i64 0),(.str []),(.bool false),(.bool false),(.bool false)] h) fun a b=>
 Out.nor (ss 4 a fr) b
def MC(fr:F)(h:Hp):Out:=
 gtO (ge 0 fr) fun a=>gtO (ge 1 fr) fun b=>aA (qI [a,b,(.bool true)] h) fun c d=>
 gtO (ge 4 fr) fun i=>aA (aO 5 i c d) fun _ j=>
 Out.nor fr j
def Jv:F→Hp→Out:=(aB MF (aB MC Out.ret))
def C9:Fun:=bG Tryz.prog (kp [0,1,4]) Tryz.f62.ntmps [.cell 4 145] Jv
theorem XH(x0 x1:V)(h:Hp):C9 [x0,x1] h=aT Tryz.prog [.cell 4 145] (Jv (ss 1 x1 (ss 0 x0 T.nil)) h):=by kernel_rfl
theorem ayn:aJ Tryz.prog aN 62 C9:=prX aP [] [] (aW aj9 bH) Tryz.func62
def aGG:FuncId→Option Fun:=kZ [(93,JO),(95,zh),(136,aib),(60,atW),(61,PW),(62,C9)]
def MS(fr:F)(h:Hp):Out:=
 aA (fC 145 [(.int .i64 0),(.str []),(.bool false),(.bool false),(.bool false)] h) fun a b=>
 Out.nor (ss 6 a fr) b
def MR:=r1 11 2 fun a h=>aI .eql .none a (.str [117,105,100]) h
def ab6(fr:F)(h:Hp):Out:=
 gtO (ge 1 fr) fun a=>aA (aK a h) fun b c=>
 aA (aC 3 b c) fun d i=>
 aA (aF d i) fun j m=>
 aA (JO [j,(.int .i64 0)] m) fun n o=>
 aA (oUn .not n o) fun p q=>
 Out.nor (ss 17 p fr) q
def ab5(fr:F)(h:Hp):Out:=
 aA (bK [(.int .i64 0),(.str []),(.bool false),(.bool false),(.bool false)] [(0,1,(.int .i64 2)),(1,1,(.str [99,111,109,109,97,110,100]))] h) fun a b=>
 gtO (ge 6 fr) fun c=>aA (aO 5 c a b) fun _ d=>
 Out.nor fr d
def ab4(fr:F)(h:Hp):Out:=
 gtO (ge 1 fr) fun a=>aA (aK a h) fun b c=>
 aA (aC 3 b c) fun d i=>
 aA (aF d i) fun j m=>
 aA (bU 3 j (.int .i64 0) m) fun n o=>
 aA (aC 1 n o) fun p q=>
 aA (aF p q) fun r s=>
 aA (zh [r] s) fun t u=>
 Out.nor (ss 2 t fr) u
def ab3(fr:F)(h:Hp):Out:=
 gtO (ge 1 fr) fun a=>aA (aK a h) fun b c=>
 aA (aC 3 b c) fun d i=>
 aA (aF d i) fun j m=>
 aA (eX 3 j (some (.int .i64 1)) none none m) fun n o=>
 aA (aK a o) fun p q=>
 aA (aC 3 p q) fun r s=>
 aA (aO 1 r n s) fun _ t=>
 aA (aK a t) fun u v=>
 aA (aC 4 u v) fun w x=>
 aA (aO 1 w (.bool true) x) fun _ y=>
 Out.nor fr y
def VR(fr:F)(h:Hp):Out:=
 gtO (ge 0 fr) fun a=>aA (aK a h) fun b c=>
 aA (aC 4 b c) fun d i=>
 aA (aF d i) fun j m=>
 gtO (ge 2 fr) fun n=>aA (Y6 .string true (.agg (.cons .gG (.cons (.int .i64 0) (.cons (.bool false) .nil)))) j n m) fun o p=>
 aA (bJ 0 o p) fun q r=>
 aA (bJ 1 o r) fun s t=>
 aA (fC 122 [.gG,(.int .i64 0),(.bool false)] t) fun u v=>
 aA (aO 3 u q v) fun _ w=>
 Out.nor (ss 8 s (ss 7 u fr)) w
def VQ(fr:F)(h:Hp):Out:=
 gtO (ge 8 fr) fun a=>aA (oUn .not a h) fun b c=>
 ifB b (Out.nor (ss 59 (.bool true) fr) c) (gtO (ge 1 fr) fun d=>aA (aK d c) fun i j=>
 aA (aC 4 i j) fun m n=>
 aA (aF m n) fun o p=>
 ifB o (gtO (ge 7 fr) fun q=>aA (aC 2 q p) fun r s=>
 aA (aF r s) fun t u=>
 aA (oUn .not t u) fun v w=>
 Out.nor (ss 59 v fr) w) (Out.nor (ss 59 (.bool false) fr) p))
def ax6(fr:F)(h:Hp):Out:=
 aA (bK [(.int .i64 0),(.str []),(.bool false),(.bool false),(.bool false)] [(0,1,(.int .i64 2)),(1,1,(.str [99,111,109,109,97,110,100]))] h) fun a b=>
 gtO (ge 6 fr) fun c=>aA (aO 5 c a b) fun _ d=>
 Out.nor fr d
def VP:=rC 9 (.bool true)
def CO(fr:F)(h:Hp):Out:=
 gtO (ge 7 fr) fun a=>aA (aC 1 a h) fun b c=>
 aA (aF b c) fun d i=>
 Out.nor (ss 62 d fr) i
def CJ:=r1 63 62 fun a h=>aI .eql .none a (.int .i64 1) h
def agV(fr:F)(h:Hp):Out:=
 gtO (ge 0 fr) fun a=>aA (aK a h) fun b c=>
 aA (aC 0 b c) fun d i=>
 aA (aF d i) fun j m=>
 aA (oUn .not j m) fun n o=>
 Out.nor (ss 9 n fr) o
def CG:=r1 70 62 fun a h=>aI .eql .none a (.int .i64 2) h
def agU(fr:F)(h:Hp):Out:=
 gtO (ge 0 fr) fun a=>aA (aK a h) fun b c=>
 aA (aC 0 b c) fun d i=>
 aA (aF d i) fun j m=>
 Out.nor (ss 9 j fr) m
def CB:=r1 76 62 fun a h=>aI .eql .none a (.int .i64 3) h
def Xr(fr:F)(h:Hp):Out:=
 gtO (ge 0 fr) fun a=>aA (aK a h) fun b c=>
 aA (aC 1 b c) fun d i=>
 aA (aF d i) fun j m=>
 aA (aI .neq (.ptr 3) j .bY m) fun n o=>
 Out.nor (ss 9 n fr) o
def Cm:=r1 84 9 fun a h=>oUn .not a h
def agT(fr:F)(h:Hp):Out:=
 aA (aib [] h) fun a b=>
 gtO (ge 6 fr) fun c=>aA (aO 5 c a b) fun _ d=>
 Out.nor fr d
def Ho(fr:F)(h:Hp):Out:=
 gtO (ge 7 fr) fun a=>aA (aC 0 a h) fun b c=>
 aA (aF b c) fun d i=>
 gtO (ge 1 fr) fun j=>aA (dX aGG d [j] i) fun m n=>
 gtO (ge 6 fr) fun o=>aA (aO 5 o m n) fun _ p=>
 Out.nor fr p
def ayc:F→Hp→Out:=(aB MS (aB (aB MR (aV (.tmp 11) (aB (aB ab6 (aV (.tmp 17) (aB ab5 Out.ret) Out.nor)) (aB ab4 ab3)) Out.nor)) (aB VR (aB (aB VQ (aV (.tmp 59) (aB ax6 Out.ret) Out.nor)) (aB VP (aB (aB CO (bP 0 (aB CJ (aV (.tmp 63) agV (aB CG (aV (.tmp 70) agU (aB CB (aV (.tmp 76) Xr Out.nor)))))))) (aB (aB Cm (aV (.tmp 84) (aB agT Out.ret) Out.nor)) (aB Ho Out.ret))))))))
def aaw:Fun:=bG Tryz.prog (kp [0,1,2,6,7,8,9,11,17,59,62,63,70,76,84]) Tryz.f94.ntmps [.cell 6 145] ayc
theorem asR(x0 x1 x2:V)(h:Hp):aaw [x0,x1,x2] h=aT Tryz.prog [.cell 6 145] (ayc (ss 2 x2 (ss 1 x1 (ss 0 x0 T.nil))) h):=by kernel_rfl
theorem aPq:aJ Tryz.prog aN 94 aaw:=prX aP [] [] (aW aGX (aW ahh (aW aPR (aW aPV (aW aGQ (aW ayn bH)))))) Tryz.func94
def alR:=rC 6 (.str [])
def alQ:=r1 23 0 fun a h=>aI .eql (.ptr 3) a .bY h
def axY:=rC 6 (.str [])
def V9:F→Hp→Out:=zz
def aGZ:F→Hp→Out:=zz
def aGY:F→Hp→Out:=zz
def aha:F→Hp→Out:=(aB alR (aB (aB alQ (aV (.tmp 23) (aB axY Out.ret) Out.nor)) zz))
def aav:Fun:=bG Tryz.prog (kp [0,1,2,6,7,8,9,10,11,13,14,15,16,17,18,19,21,23,41,54,76,77,78,79,98,133,134,135,136,142,153]) Tryz.f97.ntmps [.tmp 6] aha
theorem asQ(x0 x1 x2:V)(h:Hp):aav [x0,x1,x2] h=aT Tryz.prog [.tmp 6] (aha (ss 2 x2 (ss 1 x1 (ss 0 x0 T.nil))) h):=by kernel_rfl
theorem aPp:aJ Tryz.prog aN 97 aav:=prX aP [3,4,5,6,7,8,9,10,11,12,13,14,15,16,17,18,19,20,21,22,23,24,25,26,27,28,29,30,31] [] bH Tryz.func97
def Ui(fr:F)(h:Hp):Out:=
 gtO (ge 3 fr) fun a=>aA (fV 94 a h) fun b c=>
 Out.nor (ss 9 (.bool false) (ss 8 (.str []) (ss 7 b fr))) c
def Uh(fr:F)(h:Hp):Out:=
 gtO (ge 0 fr) fun a=>aA (aI .eql (.ptr 5) a .bY h) fun b c=>
 ifB b (Out.nor (ss 13 (.bool true) fr) c) (gtO (ge 1 fr) fun d=>aA (aI .eql (.ptr 16) d .bY c) fun i j=>
 Out.nor (ss 13 i fr) j)
def aqS(fr:F)(h:Hp):Out:=
 Out.nor (ss 9 (.bool false) (ss 8 (.str []) fr)) h
def Ug(fr:F)(h:Hp):Out:=
 gtO (ge 7 fr) fun a=>aA (aC 0 a h) fun b c=>
 aA (aF b c) fun d i=>
 aA (aI .eql .none d (.int .i64 2) i) fun j m=>
 Out.nor (ss 20 j fr) m
def aqR(fr:F)(h:Hp):Out:=
 Out.nor (ss 9 (.bool true) (ss 8 (.str [43,32,103,111,32,111,110,13,10]) fr)) h
def Uf(fr:F)(h:Hp):Out:=
 gtO (ge 7 fr) fun a=>aA (aC 0 a h) fun b c=>
 aA (aF b c) fun d i=>
 aA (aI .neq .none d (.int .i64 1) i) fun j m=>
 ifB j (Out.nor (ss 24 (.bool true) fr) m) (aA (aC 1 a m) fun n o=>
 aA (aF n o) fun p q=>
 aA (JO [p,(.int .i64 0)] q) fun r s=>
 aA (oUn .not r s) fun t u=>
 ifB t (Out.nor (ss 24 (.bool true) fr) u) (aA (aC 1 a u) fun v w=>
 aA (aF v w) fun x y=>
 aA (JO [x,(.int .i64 1)] y) fun z aa=>
 aA (oUn .not z aa) fun ab ac=>
 Out.nor (ss 24 ab fr) ac))
def aqQ(fr:F)(h:Hp):Out:=
 Out.nor (ss 9 (.bool true) (ss 8 (.str [42,32,66,65,68,32,108,105,110,101,13,10]) fr)) h
def Ue(fr:F)(h:Hp):Out:=
 gtO (ge 0 fr) fun a=>aA (aK a h) fun b c=>
 aA (aC 3 b c) fun d i=>
 aA (aax [d,(.int .i64 1)] i) fun j m=>
 Out.nor fr m
def Ud(fr:F)(h:Hp):Out:=
 gtO (ge 0 fr) fun a=>gtO (ge 1 fr) fun b=>gtO (ge 2 fr) fun c=>gtO (ge 7 fr) fun d=>aA (aC 1 d h) fun i j=>
 aA (aF i j) fun m n=>
 aA (eX 3 m (some (.int .i64 2)) none none n) fun o p=>
 aA (bK [.bY,.bY,(.int .i64 0),.aG,(.bool false),.bY,.aG] [(0,1,a),(1,1,b),(2,1,c),(3,1,o)] p) fun q r=>
 aA (fV 143 q r) fun s t=>
 Out.nor (ss 10 s fr) t
def Ub(fr:F)(h:Hp):Out:=
 gtO (ge 0 fr) fun a=>gtO (ge 10 fr) fun b=>gtO (ge 7 fr) fun c=>aA (aC 1 c h) fun d i=>
 aA (aF d i) fun j m=>
 aA (bU 3 j (.int .i64 1) m) fun n o=>
 aA (aC 1 n o) fun p q=>
 aA (aF p q) fun r s=>
 aA (zh [r] s) fun t u=>
 aA (aaw [a,b,t] u) fun v w=>
 aA (fC 145 [(.int .i64 0),(.str []),(.bool false),(.bool false),(.bool false)] w) fun x y=>
 aA (aO 5 x v y) fun _ z=>
 Out.nor (ss 11 x fr) z
def MQ(fr:F)(h:Hp):Out:=
 gtO (ge 7 fr) fun a=>aA (aC 1 a h) fun b c=>
 aA (aF b c) fun d i=>
 aA (bU 3 d (.int .i64 0) i) fun j m=>
 aA (aC 1 j m) fun n o=>
 aA (aF n o) fun p q=>
 Out.nor (ss 12 p fr) q
def MP(fr:F)(h:Hp):Out:=
 gtO (ge 11 fr) fun a=>aA (aC 0 a h) fun b c=>
 aA (aF b c) fun d i=>
 aA (aI .eql .none d (.int .i64 1) i) fun j m=>
 Out.nor (ss 66 j fr) m
def abV(fr:F)(h:Hp):Out:=
 gtO (ge 12 fr) fun a=>aA (aI .add .none a (.str [32,78,79,32]) h) fun b c=>
 gtO (ge 11 fr) fun d=>aA (aC 1 d c) fun i j=>
 aA (aF i j) fun m n=>
 aA (aI .add .none b m n) fun o p=>
 aA (aI .add .none o (.str [13,10]) p) fun q r=>
 Out.nor (ss 9 (.bool true) (ss 8 q fr)) r
def VL(fr:F)(h:Hp):Out:=
 gtO (ge 11 fr) fun a=>aA (aC 0 a h) fun b c=>
 aA (aF b c) fun d i=>
 aA (aI .eql .none d (.int .i64 2) i) fun j m=>
 Out.nor (ss 76 j fr) m
def alI(fr:F)(h:Hp):Out:=
 gtO (ge 12 fr) fun a=>aA (aI .add .none a (.str [32,66,65,68,32]) h) fun b c=>
 gtO (ge 11 fr) fun d=>aA (aC 1 d c) fun i j=>
 aA (aF i j) fun m n=>
 aA (aI .add .none b m n) fun o p=>
 aA (aI .add .none o (.str [13,10]) p) fun q r=>
 Out.nor (ss 9 (.bool true) (ss 8 q fr)) r
def VK(fr:F)(h:Hp):Out:=
 gtO (ge 11 fr) fun a=>aA (aC 3 a h) fun b c=>
 aA (aF b c) fun d i=>
 aA (oUn .not d i) fun j m=>
 Out.nor (ss 88 j fr) m
def abU(fr:F)(h:Hp):Out:=
 gtO (ge 0 fr) fun a=>aA (aK a (aH 0 h)) fun b _=>
 aA (aC 1 b (aH 0 h)) fun c _=>
 aA (aF c (aH 0 h)) fun d _=>
 gtO (ge 1 fr) fun i=>gtO (ge 11 fr) fun j=>aA (aC 4 j (aH 0 h)) fun m _=>
 aA (aF m (aH 0 h)) fun n _=>
 aA (oUn .not n (aH 0 h)) fun o _=>
 aA (aav [d,i,o] (aH 0 h)) fun p q=>
 gtO (ge 10 fr) fun r=>aA (aK r q) fun s _=>
 aA (aC 5 s q) fun t _=>
 aA (zf [t,p] q) fun u v=>
 Out.nor fr v
def abT(fr:F)(h:Hp):Out:=
 gtO (ge 11 fr) fun a=>aA (aC 1 a h) fun b c=>
 aA (aF b c) fun d i=>
 aA (aI .neq .none d (.str []) i) fun j m=>
 Out.nor (ss 104 j fr) m
def alH(fr:F)(h:Hp):Out:=
 gtO (ge 10 fr) fun a=>gtO (ge 12 fr) fun b=>gtO (ge 11 fr) fun c=>aA (aC 1 c h) fun d i=>
 aA (aF d i) fun j m=>
 aA (aI .add .none (.str [91]) j m) fun n o=>
 aA (aI .add .none n (.str [93]) o) fun p q=>
 aA (bI 9 [(.str []),(.str []),(.str []),(.str [])] 4 [(0,1,b),(1,1,(.str [79,75])),(2,1,p),(3,1,(.str [100,111,110,101]))] q) fun r s=>
 aA (AP [a,r] s) fun t u=>
 Out.nor fr u
def alG(fr:F)(h:Hp):Out:=
 gtO (ge 10 fr) fun a=>gtO (ge 12 fr) fun b=>aA (bI 9 [(.str []),(.str [])] 2 [(0,1,b),(1,1,(.str [79,75,32,100,111,110,101]))] h) fun c d=>
 aA (AP [a,c] d) fun i j=>
 Out.nor fr j
def abS(fr:F)(h:Hp):Out:=
 gtO (ge 10 fr) fun a=>aA (aK a (aH 0 h)) fun b _=>
 aA (aC 5 b (aH 0 h)) fun c _=>
 aA (JM [c] (aH 0 h)) fun d i=>
 gtO (ge 11 fr) fun j=>aA (aC 2 j i) fun m _=>
 aA (aF m i) fun n _=>chk (fun h=>aF m h) n (
 aA (oUn .not n i) fun o _=>
 Out.nor (ss 9 o (ss 8 d fr)) i) 1 [(aH 0 h)]
def aD0:F→Hp→Out:=(aB Ui (aB (bP 0 (aB Uh (aV (.tmp 13) (aB aqS Out.ret) (aB Ug (aV (.tmp 20) (aB aqR Out.ret) (aB Uf (aV (.tmp 24) (aB aqQ Out.ret) Out.nor))))))) (aB Ue (aB Ud (aB Ub (aB MQ (aB (bP 1 (aB MP (aV (.tmp 66) (aB abV Out.ret) (aB VL (aV (.tmp 76) (aB alI Out.ret) Out.nor))))) (aB (aB VK (aV (.tmp 88) abU Out.nor)) (aB (aB abT (aV (.tmp 104) alH alG)) (aB abS Out.ret))))))))))
def aid:Fun:=bG Tryz.prog (kp [0,1,2,3,7,8,9,10,11,12,13,20,24,66,76,88,104]) Tryz.f42.ntmps [.tmp 8,.tmp 9] aD0
theorem aJa(x0 x1 x2 x3:V)(h:Hp):aid [x0,x1,x2,x3] h=aT Tryz.prog [.tmp 8,.tmp 9] (aD0 (ss 3 x3 (ss 2 x2 (ss 1 x1 (ss 0 x0 T.nil)))) h):=by kernel_rfl
theorem aPU:aJ Tryz.prog aN 42 aid:=prX aP [] [(16,[0,1,3,0,8,24,56,0,0,256,768,2040,4095],fO [48,64,80,99,112,128,147,160,178,0,16,32,194]),(20,[0,1,3,7,0,16,48,15,255],fO [0,16,32,50,64,84,96,112,128])] (aW aGX (aW aGW (aW ahh (aW aPq (aW aPp (aW apg (aW aEe (aW ayp bH)))))))) Tryz.func42
abbrev zC:Fun:=Ik.aBU
theorem azx:aJ Tryz.prog aN 14 zC:=Ik.aM4
abbrev Az:Fun:=OO
theorem ao9:aJ Tryz.prog aN 170 Az:=anE
def U9:=rC 4 (.int .i64 0)
def U8:=r1 5 1 fun a h=>aY 1 a h
def U7(fr:F)(h:Hp):Out:=
 gtO (ge 5 fr) fun a=>aA (aI .eql .none a (.int .i64 0) h) fun b c=>
 ifB b (Out.nor (ss 16 (.bool true) fr) c) (gtO (ge 1 fr) fun d=>gtO (ge 0 fr) fun i=>aA (aI .eql .none d i c) fun j m=>
 Out.nor (ss 16 j fr) m)
def afT:=rC 4 (.int .i64 0)
def afS:=r1 24 5 fun a h=>aI .eql .none a (.int .i64 1) h
def afR(fr:F)(h:Hp):Out:=
 gtO (ge 0 fr) fun a=>gtO (ge 1 fr) fun b=>aA (dG b (.int .i64 0) h) fun c d=>
 aA (qL [a,c] d) fun i j=>
 Out.nor (ss 4 i fr) j
def aNf:F→Hp→Out:=zz
def SY:F→Hp→Out:=(aB U9 (aB U8 (aB (bP 0 (aB U7 (aV (.tmp 16) (aB afT Out.ret) (aB afS (aV (.tmp 24) (aB afR Out.ret) zz))))) zz)))
def TD:Fun:=bG Tryz.prog (kp [0,1,4,5,6,7,8,9,10,11,12,13,16,24,31,36,59,64,73,93,107,114,132,139]) Tryz.f376.ntmps [.tmp 4] SY
theorem atj(x0 x1:V)(h:Hp):TD [x0,x1] h=aT Tryz.prog [.tmp 4] (SY (ss 1 x1 (ss 0 x0 T.nil)) h):=by kernel_rfl
theorem aD2:aJ Tryz.prog aN 376 TD:=prX aP [6,7,8,9,10,11,12,13,14,15,16,17,18,19,20,21,22,23,24,25,26,27,28,29,30,31,32,33,34,35] [] (aW aaj bH) Tryz.func376
def abJ(fr:F)(h:Hp):Out:=
 Out.nor (ss 6 (.bool false) (ss 5 (.str []) (ss 4 (.str []) fr))) h
def abI:=r2 7 0 1 fun a b h=>TD [a,b] h
def abH:=r1 12 7 fun a h=>aI .geq .none a (.int .i64 0) h
def aok(fr:F)(h:Hp):Out:=
 gtO (ge 0 fr) fun a=>gtO (ge 7 fr) fun b=>aA (dZ a none (some b) (aH 0 h)) fun c _=>
 gtO (ge 0 fr) fun d=>gtO (ge 7 fr) fun i=>gtO (ge 1 fr) fun j=>aA (aY 1 j (aH 0 h)) fun m _=>
 aA (aI .add .none i m (aH 0 h)) fun n _=>
 aA (dZ d (some n) none (aH 0 h)) fun o _=>
 Out.nor (ss 6 (.bool true) (ss 5 o (ss 4 c fr))) (aH 0 h)
def aoj(fr:F)(h:Hp):Out:=
 gtO (ge 0 fr) fun a=>Out.nor (ss 6 (.bool false) (ss 5 (.str []) (ss 4 a fr))) h
def ab8:F→Hp→Out:=(aB abJ (aB (aB abI (aB abH (aV (.tmp 12) (aB aok Out.ret) Out.nor))) (aB aoj Out.ret)))
def acH:Fun:=bG Tryz.prog (kp [0,1,4,5,6,7,12]) Tryz.f294.ntmps [.tmp 4,.tmp 5,.tmp 6] ab8
theorem azH(x0 x1:V)(h:Hp):acH [x0,x1] h=aT Tryz.prog [.tmp 4,.tmp 5,.tmp 6] (ab8 (ss 1 x1 (ss 0 x0 T.nil)) h):=by kernel_rfl
theorem aIU:aJ Tryz.prog aN 294 acH:=prX aP [] [(3,[0,0,3,0,0,0,32,112,248,7,1023,2047],fO [0,16,32,48,64,80,96,112,128,144,160,176])] (aW aD2 bH) Tryz.func294
def aoz(fr:F)(h:Hp):Out:=
 Out.nor (ss 6 (.bool false) (ss 5 (.str []) (ss 4 (.str []) fr))) h
def aoy(fr:F)(h:Hp):Out:=
 gtO (ge 0 fr) fun a=>gtO (ge 1 fr) fun b=>aA (acH [a,b] h) fun c d=>
 aA (bJ 0 c d) fun i j=>
 aA (bJ 1 c j) fun m n=>
 aA (bJ 2 c n) fun o p=>
 Out.nor (ss 6 o (ss 5 m (ss 4 i fr))) p
def alZ:F→Hp→Out:=(aB aoz (aB aoy Out.ret))
def acJ:Fun:=bG Tryz.prog (kp [0,1,4,5,6]) Tryz.f196.ntmps [.tmp 4,.tmp 5,.tmp 6] alZ
theorem azL(x0 x1:V)(h:Hp):acJ [x0,x1] h=aT Tryz.prog [.tmp 4,.tmp 5,.tmp 6] (alZ (ss 1 x1 (ss 0 x0 T.nil)) h):=by kernel_rfl
theorem aIX:aJ Tryz.prog aN 196 acJ:=prX aP [] [] (aW aIU bH) Tryz.func196
abbrev Ef:Fun:=Ik.axr
theorem aij:aJ Tryz.prog aN 371 Ef:=Ik.aIA
def OT:=rC 4 (.bool false)
def OQ(fr:F)(h:Hp):Out:=
 gtO (ge 0 fr) fun a=>gtO (ge 1 fr) fun b=>aA (aK a h) fun c d=>
 aA (ahJ 256 1 c b d) fun i j=>
 aA (aF i j) fun m n=>
 Out.nor (ss 4 m fr) n
def F9:F→Hp→Out:=(aB OT (aB OQ Out.ret))
def rP:Fun:=bG Tryz.prog (kp [0,1,4]) Tryz.f435.ntmps [.tmp 4] F9
theorem aen(x0 x1:V)(h:Hp):rP [x0,x1] h=aT Tryz.prog [.tmp 4] (F9 (ss 1 x1 (ss 0 x0 T.nil)) h):=by kernel_rfl
theorem V6:aJ Tryz.prog aN 435 rP:=prX aP [] [] bH Tryz.func435
def IG:=rC 4 (.str [])
def qw(fr:F)(h:Hp):Out:=
 gtO (ge 0 fr) fun a=>aA (aY 1 a h) fun b c=>
 aA (aI .gtr .none b (.int .i64 0) c) fun d i=>
 Out.nor (ss 7 d fr) i
def yg(fr:F)(h:Hp):Out:=
 gtO (ge 1 fr) fun a=>gtO (ge 0 fr) fun b=>aA (dG b (.int .i64 0) h) fun c d=>
 aA (rP [a,c] d) fun i j=>
 aA (oUn .not i j) fun m n=>
 Out.nor (ss 12 m fr) n
def IE(fr:F)(h:Hp):Out:=
 gtO (ge 0 fr) fun a=>aA (dZ a (some (.int .i64 1)) none h) fun b c=>
 Out.nor (ss 0 b fr) c
def IC:=rM 4 0
def qA:F→Hp→Out:=(aB (aB qw (aV (.tmp 7) Out.nor (Out.ex 0))) (bP 1 (aB (aB yg (aV (.tmp 12) (Out.ex 0) Out.nor)) IE)))
def uP:F→Hp→Out:=(aB IG (aB (bP 0 (dI qA lf)) (aB IC Out.ret)))
def uU:Fun:=bG Tryz.prog (kp [0,1,4,7,12]) Tryz.f372.ntmps [.tmp 4] uP
theorem aao(x0 x1:V)(h:Hp):uU [x0,x1] h=aT Tryz.prog [.tmp 4] (uP (ss 1 x1 (ss 0 x0 T.nil)) h):=by kernel_rfl
theorem ahb:aJ Tryz.prog aN 372 uU:=prX aP [] [] (aW V6 bH) Tryz.func372
def GL:=rC 4 (.str [])
def oU(fr:F)(h:Hp):Out:=
 gtO (ge 0 fr) fun a=>aA (aY 1 a h) fun b c=>
 aA (aI .gtr .none b (.int .i64 0) c) fun d i=>
 Out.nor (ss 7 d fr) i
def wG(fr:F)(h:Hp):Out:=
 gtO (ge 1 fr) fun a=>gtO (ge 0 fr) fun b=>aA (aY 1 b h) fun c d=>
 aA (aI .sub .none c (.int .i64 1) d) fun i j=>
 aA (dG b i j) fun m n=>
 aA (rP [a,m] n) fun o p=>
 aA (oUn .not o p) fun q r=>
 Out.nor (ss 15 q fr) r
def GK(fr:F)(h:Hp):Out:=
 gtO (ge 0 fr) fun a=>aA (aY 1 a h) fun b c=>
 aA (aI .sub .none b (.int .i64 1) c) fun d i=>
 aA (dZ a none (some d) i) fun j m=>
 Out.nor (ss 0 j fr) m
def GI:=rM 4 0
def oZ:F→Hp→Out:=(aB (aB oU (aV (.tmp 7) Out.nor (Out.ex 0))) (bP 1 (aB (aB wG (aV (.tmp 15) (Out.ex 0) Out.nor)) GK)))
def rW:F→Hp→Out:=(aB GL (aB (bP 0 (dI oZ lf)) (aB GI Out.ret)))
def rY:Fun:=bG Tryz.prog (kp [0,1,4,7,15]) Tryz.f373.ntmps [.tmp 4] rW
theorem YS(x0 x1:V)(h:Hp):rY [x0,x1] h=aT Tryz.prog [.tmp 4] (rW (ss 1 x1 (ss 0 x0 T.nil)) h):=by kernel_rfl
theorem aej:aJ Tryz.prog aN 373 rY:=prX aP [] [] (aW V6 bH) Tryz.func373
def Yv:=rC 4 (.str [])
def Yu(fr:F)(h:Hp):Out:=
 gtO (ge 0 fr) fun a=>aA (aI .eql .none a (.str []) h) fun b c=>
 ifB b (Out.nor (ss 12 (.bool true) fr) c) (gtO (ge 1 fr) fun d=>aA (aI .eql .none d (.str []) c) fun i j=>
 Out.nor (ss 12 i fr) j)
def ajx:=rM 4 0
def ajw(fr:F)(h:Hp):Out:=
 gtO (ge 1 fr) fun a=>aA (aY 1 a h) fun b c=>
 aA (aI .eql .none b (.int .i64 1) c) fun d i=>
 ifB d (aA (dG a (.int .i64 0) i) fun j m=>
 aA (aI .lss .none j (.int .u8 128) m) fun n o=>
 Out.nor (ss 21 n fr) o) (Out.nor (ss 21 (.bool false) fr) i)
def ajv(fr:F)(h:Hp):Out:=
 gtO (ge 1 fr) fun a=>aA (Ef [a] h) fun b c=>
 aA (bJ 0 b c) fun d i=>
 aA (bJ 1 b i) fun j m=>
 aA (fC 406 [(.bool false),(.bool false),(.bool false),(.bool false),(.bool false),(.bool false),(.bool false),(.bool false),(.bool false),(.bool false),(.bool false),(.bool false),(.bool false),(.bool false),(.bool false),(.bool false),(.bool false),(.bool false),(.bool false),(.bool false),(.bool false),(.bool false),(.bool false),(.bool false),(.bool false),(.bool false),(.bool false),(.bool false),(.bool false),(.bool false),(.bool false),(.bool false),(.bool false),(.bool false),(.bool false),(.bool false),(.bool false),(.bool false),(.bool false),(.bool false),(.bool false),(.bool false),(.bool false),(.bool false),(.bool false),(.bool false),(.bool false),(.bool false),(.bool false),(.bool false),(.bool false),(.bool false),(.bool false),(.bool false),(.bool false),(.bool false),(.bool false),(.bool false),(.bool false),(.bool false),(.bool false),(.bool false),(.bool false),(.bool false),(.bool false),(.bool false),(.bool false),(.bool false),(.bool false),(.bool false),(.bool false),(.bool false),(.bool false),(.bool false),(.bool false),(.bool false),(.bool false),(.bool false),(.bool false),(.bool false),(.bool false),(.bool false),(.bool false),(.bool false),(.bool false),(.bool false),(.bool false),(.bool false),(.bool false),(.bool false),(.bool false),(.bool false),(.bool false),(.bool false),(.bool false),(.bool false),(.bool false),(.bool false),(.bool false),(.bool false),(.bool false),(.bool false),(.bool false),(.bool false),(.bool false),(.bool false),(.bool false),(.bool false),(.bool false),(.bool false),(.bool false),(.bool false),(.bool false),(.bool false),(.bool false),(.bool false),(.bool false),(.bool false),(.bool false),(.bool false),(.bool false),(.bool false),(.bool false),(.bool false),(.bool false),(.bool false),(.bool false),(.bool false),(.bool false),(.bool false),(.bool false),(.bool false),(.bool false),(.bool false),(.bool false),(.bool false),(.bool false),(.bool false),(.bool false),(.bool false),(.bool false),(.bool false),(.bool false),(.bool false),(.bool false),(.bool false),(.bool false),(.bool false),(.bool false),(.bool false),(.bool false),(.bool false),(.bool false),(.bool false),(.bool false),(.bool false),(.bool false),(.bool false),(.bool false),(.bool false),(.bool false),(.bool false),(.bool false),(.bool false),(.bool false),(.bool false),(.bool false),(.bool false),(.bool false),(.bool false),(.bool false),(.bool false),(.bool false),(.bool false),(.bool false),(.bool false),(.bool false),(.bool false),(.bool false),(.bool false),(.bool false),(.bool false),(.bool false),(.bool false),(.bool false),(.bool false),(.bool false),(.bool false),(.bool false),(.bool false),(.bool false),(.bool false),(.bool false),(.bool false),(.bool false),(.bool false),(.bool false),(.bool false),(.bool false),(.bool false),(.bool false),(.bool false),(.bool false),(.bool false),(.bool false),(.bool false),(.bool false),(.bool false),(.bool false),(.bool false),(.bool false),(.bool false),(.bool false),(.bool false),(.bool false),(.bool false),(.bool false),(.bool false),(.bool false),(.bool false),(.bool false),(.bool false),(.bool false),(.bool false),(.bool false),(.bool false),(.bool false),(.bool false),(.bool false),(.bool false),(.bool false),(.bool false),(.bool false),(.bool false),(.bool false),(.bool false),(.bool false),(.bool false),(.bool false),(.bool false),(.bool false),(.bool false),(.bool false),(.bool false),(.bool false),(.bool false),(.bool false),(.bool false),(.bool false),(.bool false),(.bool false),(.bool false),(.bool false),(.bool false),(.bool false),(.bool false)] m) fun n o=>
 aA (aO 256 n d o) fun _ p=>
 Out.nor (ss 6 j (ss 5 n fr)) p
def aju:=rM 34 6
def ajt(fr:F)(h:Hp):Out:=
 gtO (ge 0 fr) fun a=>gtO (ge 5 fr) fun b=>aA (rY [a,b] h) fun c d=>
 aA (uU [c,b] d) fun i j=>
 Out.nor (ss 4 i fr) j
def Xv:F→Hp→Out:=(aB Yv (aB (aB Yu (aV (.tmp 12) (aB ajx Out.ret) Out.nor)) (aB (aB ajw (aV (.tmp 21) zz Out.nor)) (aB (aB ajv (aB aju (aV (.tmp 34) (aB ajt Out.ret) Out.nor))) zz))))
def XE:Fun:=bG Tryz.prog (kp [0,1,4,5,6,12,21,34]) Tryz.f288.ntmps [.tmp 4] Xv
theorem ayB(x0 x1:V)(h:Hp):XE [x0,x1] h=aT Tryz.prog [.tmp 4] (Xv (ss 1 x1 (ss 0 x0 T.nil)) h):=by kernel_rfl
theorem aGM:aJ Tryz.prog aN 288 XE:=prX aP [4,8] [] (aW aij (aW aej (aW ahb bH))) Tryz.func288
def ao0(fr:F)(h:Hp):Out:=
 aA (fC 263 [(.str []),(.str [])] h) fun a b=>
 Out.nor (ss 3 (.bool false) (ss 2 a fr)) b
def aoZ(fr:F)(h:Hp):Out:=
 gtO (ge 0 fr) fun a=>aA (acJ [a,(.str [58])] h) fun b c=>
 aA (bJ 0 b c) fun d i=>
 aA (bJ 1 b i) fun j m=>
 aA (bJ 2 b m) fun n o=>
 Out.nor (ss 6 n (ss 5 j (ss 4 d fr))) o
def aoY(fr:F)(h:Hp):Out:=
 gtO (ge 4 fr) fun a=>aA (aY 1 a h) fun b c=>
 Out.nor (ss 16 (.int .i64 0) (ss 15 b fr)) c
def aoX:=r2 17 16 15 fun a b h=>aI .lss .none a b h
def SX:=rM 7 16
def SV(fr:F)(h:Hp):Out:=
 gtO (ge 6 fr) fun a=>ifB a (gtO (ge 4 fr) fun b=>gtO (ge 7 fr) fun c=>aA (dG b c h) fun d i=>
 aA (aI .geq .none d (.int .u8 33) i) fun j m=>
 ifB j (aA (dG b c m) fun n o=>
 aA (aI .leq .none n (.int .u8 126) o) fun p q=>
 Out.nor (ss 6 p fr) q) (Out.nor (ss 6 (.bool false) fr) m)) (Out.nor (ss 6 (.bool false) fr) h)
def aoW:=r1 16 16 fun a h=>aI .add .none a (.int .i64 1) h
def abR(fr:F)(h:Hp):Out:=
 gtO (ge 4 fr) fun a=>gtO (ge 5 fr) fun b=>aA (XE [b,(.str [32,9])] h) fun c d=>
 aA (bK [(.str []),(.str [])] [(0,1,a),(1,1,c)] d) fun i j=>
 gtO (ge 6 fr) fun m=>ifB m (aA (aI .neq .none a (.str []) j) fun n o=>
 gtO (ge 2 fr) fun p=>aA (aO 2 p i o) fun _ q=>
 Out.nor (ss 3 n fr) q) (gtO (ge 2 fr) fun p=>aA (aO 2 p i j) fun _ q=>
 Out.nor (ss 3 (.bool false) fr) q)
def aEi:F→Hp→Out:=(aB aoX (aB (aV (.tmp 17) Out.nor (Out.ex 0)) (aB (bP 1 (aB SX SV)) aoW)))
def acp:F→Hp→Out:=(aB ao0 (aB aoZ (aB (aB aoY (bP 0 (dI aEi lf))) (aB abR Out.ret))))
def Ws:Fun:=bG Tryz.prog (kp [0,2,3,4,5,6,7,15,16,17]) Tryz.f183.ntmps [.cell 2 263,.tmp 3] acp
theorem azS(x0:V)(h:Hp):Ws [x0] h=aT Tryz.prog [.cell 2 263,.tmp 3] (acp (ss 0 x0 T.nil) h):=by kernel_rfl
theorem aI2:aJ Tryz.prog aN 183 Ws:=prX aP [] [] (aW aIX (aW aGM bH)) Tryz.func183
def agF(fr:F)(h:Hp):Out:=
 gtO (ge 0 fr) fun a=>aA (fV 9 a h) fun b c=>
 gtO (ge 1 (ss 3 b fr)) fun d=>aA (fV 3 d c) fun i j=>
 gtO (ge 2 (ss 4 i (ss 3 b fr))) fun m=>aA (fV 3 m j) fun n o=>
 Out.nor (ss 6 .gG (ss 5 n (ss 4 i (ss 3 b fr)))) o
def agE(fr:F)(h:Hp):Out:=
 gtO (ge 4 fr) fun a=>gtO (ge 5 fr) fun b=>gtO (ge 3 fr) fun c=>aA (fK (.func 287) [] [a,b,c] h) fun d i=>
 Out.nor (ss 6 d fr) i
def acr:F→Hp→Out:=(aB agF (aB agE Out.ret))
def JJ:Fun:=bG Tryz.prog (kp [0,1,2,3,4,5,6]) Tryz.f182.ntmps [.tmp 6] acr
theorem atx(x0 x1 x2:V)(h:Hp):JJ [x0,x1,x2] h=aT Tryz.prog [.tmp 6] (acr (ss 2 x2 (ss 1 x1 (ss 0 x0 T.nil))) h):=by kernel_rfl
theorem aEb:aJ Tryz.prog aN 182 JJ:=prX aP [] [] bH Tryz.func182
def aj2:Nat→Bool:=fun t=>FN t [0,1,2,3,5,6,7,10,19,28,29,30,32]
def yU(fr:F)(h:Hp):Out:=
 gtO (ge 1 fr) fun a=>aA (aF a h) fun b c=>
 gtO (ge 2 fr) fun d=>aA (aF d c) fun i j=>
 aA (aI .lss .none b i j) fun m n=>
 Out.nor (ss 10 m fr) n
def Fv(fr:F)(h:Hp):Out:=
 gtO (ge 3 fr) fun a=>aA (aF a (aH 0 h)) fun b _=>
 gtO (ge 1 fr) fun c=>aA (aF c (aH 0 h)) fun d _=>
 gtO (ge 2 fr) fun i=>aA (aF i (aH 0 h)) fun j _=>
 aA (dZ b (some d) (some j) (aH 0 h)) fun m _=>
 gtO (ge 2 fr) fun n=>aA (aF n (aH 0 h)) fun o _=>
 Out.nor (ss 6 o (ss 5 m fr)) (aH 0 h)
def yT(fr:F)(h:Hp):Out:=
 gtO (ge 5 fr) fun a=>aA (nV [a,(.int .u8 10)] h) fun b c=>
 Out.nor (ss 7 b fr) c
def yS(fr:F)(h:Hp):Out:=
 gtO (ge 7 fr) fun a=>aA (aI .geq .none a (.int .i64 0) h) fun b c=>
 Out.nor (ss 19 b fr) c
def Fq(fr:F)(h:Hp):Out:=
 gtO (ge 5 fr) fun a=>gtO (ge 7 fr) fun b=>aA (dZ a none (some b) (aH 0 h)) fun c _=>
 aA (Az [c,(.str [13])] (aH 0 h)) fun d i=>
 gtO (ge 1 fr) fun j=>aA (aF j i) fun m _=>chk (fun h=>aF j h) m (
 gtO (ge 7 fr) fun n=>aA (aI .add .none m n i) fun o _=>
 aA (aI .add .none o (.int .i64 1) i) fun p _=>
 Out.nor (ss 6 p (ss 5 d fr)) i) 1 [(aH 0 h)]
def kT(Y:List V→Hp→YR)(k:Nat):nP:=aHa (fun fr h=>gtO (ge 0 fr) fun a=>gtO (ge 5 (ss 28 a fr)) fun c=>gtO (ge 6 (ss 29 c (ss 28 a fr))) fun d=>Out.nor (ss 30 d (ss 29 c (ss 28 a fr))) h) [.tmp 28,.tmp 29,.tmp 30] k Y fun b fr h=>
 aA (oUn .not (.bool b) h) fun i j=>
 Out.nor (ss 32 i fr) j
def tu(fr:F)(h:Hp):Out:=
 gtO (ge 6 fr) fun a=>gtO (ge 1 fr) fun b=>aA (aO 1 b a h) fun _ c=>
 Out.nor fr c
def FC(Y:List V→Hp→YR)(k:Nat):nP:=(vC (kR (aB yU (aV (.tmp 10) Out.nor (Out.ex 0)))) (afh 1 (vC (kR Fv) (vC (kR (aB yT (aB yS (aV (.tmp 19) Fq Out.nor)))) (vC (vC (kT Y k) (kR (aV (.tmp 32) Out.ret Out.nor))) (kR tu))))))
def EO(Y:List V→Hp→YR)(k:Nat):nP:=(afh 0 (NE (FC Y k) lf))
def aj3:FuncId→Option Fun:=fun f=>match Nat.beq f 107 with|true=>some nV|false=>match Nat.beq f 170 with|true=>some Az|false=>none
def aj1:cO:=fun id=>match Nat.beq id 1 with|true=>some ([0,0,0,7,0,15,63],[(0,.read 0),(1,.read 0),(2,.read 0),(3,.pure),(4,.read 0),(5,.pure),(6,.pure)])|false=>match Nat.beq id 4 with|true=>some ([0,0,3,7,0,0,48,112,15,511],[(0,.pure),(1,.pure),(2,.pure),(3,.heavy),(4,.read 1),(5,.pure),(6,.pure),(7,.pure),(8,.pure),(9,.pure)])|false=>none
def zu:ah5:=am6 Tryz.prog aN aj2 aj3 aj1 lf Tryz.f287
theorem azT(Y:List V→Hp→YR)(k:Nat):D5 Tryz.prog aN Tryz.f287.ntmps aj2 aj3 aj1 lf Y k (codeOf Tryz.f287)=EO Y k:=by kernel_rfl
theorem aqY(Y:List V→Hp→YR)(k:Nat)(x0 x1 x2 x3:V)(h:Hp):zu Y k [x0,x1,x2,x3] h=aHY (EO Y k (T.set (some x3) (Pos.of 3) (T.set (some x2) (Pos.of 2) (T.set (some x1) (Pos.of 1) (T.set (some x0) (Pos.of 0) T.nil)))) h none):=aHX (D:=EO) (by kernel_rfl) (by kernel_rfl) (azT Y k) (by kernel_rfl) h
theorem azp:Ip Tryz.prog aN 287 zu:=aHW aP (aS aak (aS ao9 bC)) Tryz.func287 (by kernel_rfl)
def ku:Nat→Bool:=fun t=>FN t [0,1,2,6,7,8,9,10,11,12,13,14,15,28,34,35,36,38,53,66,67,68,69,84,90]
def agD(fr:F)(h:Hp):Out:=
 aA (fC 3 [(.int .i64 0)] h) fun a b=>
 Out.nor (ss 7 a (ss 6 .aG fr)) b
def agC(fr:F)(h:Hp):Out:=
 gtO (ge 1 fr) fun a=>aA (aI .lss .none a (.int .i64 0) h) fun b c=>
 ifB b (Out.nor (ss 28 (.bool true) fr) c) (gtO (ge 2 fr) fun d=>gtO (ge 0 fr) fun i=>aA (aY 1 i c) fun j m=>
 aA (aI .gtr .none d j m) fun n o=>
 ifB n (Out.nor (ss 28 (.bool true) fr) o) (aA (aI .gtr .none a d o) fun p q=>
 Out.nor (ss 28 p fr) q))
def axD(fr:F)(h:Hp):Out:=
 gtO (ge 1 fr) fun a=>gtO (ge 7 (ss 6 .aG fr)) fun b=>aA (aO 1 b a h) fun _ c=>
 Out.nor (ss 6 .aG fr) c
def agB(fr:F)(h:Hp):Out:=
 gtO (ge 2 fr) fun a=>gtO (ge 7 fr) fun b=>aA (aO 1 b a h) fun _ c=>
 Out.nor fr c
def agA(fr:F)(h:Hp):Out:=
 aA (fC 26 [.aG] h) fun a b=>
 Out.nor (ss 8 a fr) b
def agz(fr:F)(h:Hp):Out:=
 gtO (ge 0 fr) fun a=>gtO (ge 1 fr) fun b=>gtO (ge 2 fr) fun c=>aA (JJ [a,b,c] h) fun d i=>
 Out.nor (ss 34 d fr) i
def Jo(fr:F)(h:Hp):Out:=
 gtO (ge 35 fr) fun a=>Out.nor (ss 9 a fr) h
def Jm(fr:F)(h:Hp):Out:=
 gtO (ge 36 fr) fun a=>Out.nor (ss 10 a fr) h
def oM(fr:F)(h:Hp):Out:=
 gtO (ge 9 fr) fun a=>aA (aI .eql .none a (.str []) h) fun b c=>
 Out.nor (ss 38 b fr) c
def Jl(fr:F)(h:Hp):Out:=
 gtO (ge 10 fr) fun a=>gtO (ge 7 fr) fun b=>aA (aO 1 b a h) fun _ c=>
 Out.nor fr c
def pV(fr:F)(h:Hp):Out:=
 gtO (ge 8 fr) fun a=>aA (aF a h) fun b c=>
 aA (aY 2 b c) fun d i=>
 Out.nor (ss 11 d fr) i
def pU(fr:F)(h:Hp):Out:=
 gtO (ge 11 fr) fun a=>aA (aI .gtr .none a (.int .i64 0) h) fun b c=>
 ifB b (gtO (ge 9 fr) fun d=>aA (dG d (.int .i64 0) c) fun i j=>
 aA (aI .eql .none i (.int .u8 32) j) fun m n=>
 ifB m (Out.nor (ss 53 (.bool true) fr) n) (aA (dG d (.int .i64 0) n) fun o p=>
 aA (aI .eql .none o (.int .u8 9) p) fun q r=>
 Out.nor (ss 53 q fr) r)) (Out.nor (ss 53 (.bool false) fr) c)
def yR(fr:F)(h:Hp):Out:=
 gtO (ge 8 fr) fun a=>aA (aF a h) fun b c=>
 gtO (ge 11 fr) fun d=>aA (aI .sub .none d (.int .i64 1) c) fun i j=>
 aA (bU 1 b i j) fun m n=>
 aA (aF m n) fun o p=>
 gtO (ge 9 fr) fun q=>aA (aI .add .none o q p) fun r s=>
 aA (bU 1 b i s) fun t u=>
 aA (aO 1 t r u) fun _ v=>
 Out.nor fr v
def yQ(fr:F)(h:Hp):Out:=
 gtO (ge 8 fr) fun a=>aA (aF a h) fun b c=>
 gtO (ge 9 fr) fun d=>aA (bI 9 [(.str [])] 1 [(0,1,d)] c) fun i j=>
 aA (bT 9 1 16 b i j) fun m n=>
 aA (aO 1 a m n) fun _ o=>
 Out.nor fr o
def ad8(fr:F)(h:Hp):Out:=
 gtO (ge 8 fr) fun a=>aA (aF a h) fun b c=>
 aA (aY 2 b c) fun d i=>
 Out.nor (ss 68 (.int .i64 0) (ss 67 d (ss 66 b fr))) i
def ad7(fr:F)(h:Hp):Out:=
 gtO (ge 68 fr) fun a=>gtO (ge 67 fr) fun b=>aA (aI .lss .none a b h) fun c d=>
 Out.nor (ss 69 c fr) d
def yP(fr:F)(h:Hp):Out:=
 gtO (ge 68 fr) fun a=>gtO (ge 66 fr) fun b=>aA (bU 1 b a h) fun c d=>
 aA (aF c d) fun i j=>
 Out.nor (ss 13 i (ss 12 a fr)) j
def yO(fr:F)(h:Hp):Out:=
 gtO (ge 12 fr) fun a=>aA (aI .eql .none a (.int .i64 0) h) fun b c=>
 ifB b (gtO (ge 13 fr) fun d=>aA (dG d (.int .i64 0) c) fun i j=>
 aA (aI .eql .none i (.int .u8 32) j) fun m n=>
 ifB m (Out.nor (ss 84 (.bool true) fr) n) (aA (dG d (.int .i64 0) n) fun o p=>
 aA (aI .eql .none o (.int .u8 9) p) fun q r=>
 Out.nor (ss 84 q fr) r)) (Out.nor (ss 84 (.bool false) fr) c)
def Fp(fr:F)(h:Hp):Out:=
 gtO (ge 13 fr) fun a=>aA (Ws [a] h) fun b c=>
 aA (bJ 0 b c) fun d i=>
 aA (bJ 1 b i) fun j m=>
 aA (fC 263 [(.str []),(.str [])] m) fun n o=>
 aA (aO 2 n d o) fun _ p=>
 Out.nor (ss 15 j (ss 14 n fr)) p
def Fj(fr:F)(h:Hp):Out:=
 gtO (ge 15 fr) fun a=>Out.nor (ss 90 a fr) h
def Q7(fr:F)(h:Hp):Out:=
 gtO (ge 6 fr) fun a=>gtO (ge 14 fr) fun b=>aA (bW 2 b h) fun c d=>
 aA (bI 263 [(.str []),(.str [])] 1 [(0,2,c)] d) fun i j=>
 aA (bT 263 2 32 a i j) fun m n=>
 Out.nor (ss 6 m fr) n
def ad6(fr:F)(h:Hp):Out:=
 gtO (ge 68 fr) fun a=>aA (aI .add .none a (.int .i64 1) h) fun b c=>
 Out.nor (ss 68 b fr) c
def ad5(fr:F)(h:Hp):Out:=
 gtO (ge 6 fr) fun a=>gtO (ge 7 fr) fun b=>aA (aF b (aH 0 h)) fun c _=>
 gtO (ge 7 fr) fun d=>aA (aO 1 d c (aH 0 h)) fun _ i=>
 Out.nor (ss 6 a fr) i
def ati:F→Hp→Out:=(aB ad7 (aB (aV (.tmp 69) Out.nor (Out.ex 2)) (aB (bP 3 (aB yP (aB (aB yO (aV (.tmp 84) (Out.ex 3) Out.nor)) (aB Fp (aB Fj (aV (.tmp 90) Q7 Out.nor)))))) ad6)))
def Dx:EY:=fun f=>match Nat.beq f 287 with|true=>some zu|false=>none
def Tq:F→Hp→Out:=(aB agD (aB (aB agC (aV (.tmp 28) (aB axD Out.ret) Out.nor)) (aB agB (aB agA (aB (aB agz (bP 0 (aaK Dx ku (.tmp 34) [35,36] (aB Jo Jm) (bP 1 (aB (aB oM (aV (.tmp 38) (aB Jl (Out.ex 0)) Out.nor)) (aB pV (aB pU (aV (.tmp 53) yR yQ)))))))) (aB (aB ad8 (bP 2 (dI ati lf))) (aB ad5 Out.ret)))))))
def ao2:FuncId→Option Fun:=fun f=>match Nat.beq f 182 with|true=>some JJ|false=>match Nat.beq f 183 with|true=>some Ws|false=>none
def ao1:cO:=fun id=>match Nat.beq id 22 with|true=>some ([0,0,1,7],[(0,.pure),(1,.read 0),(2,.pure),(3,.heavy)])|false=>none
def TN:Fun:=avE Tryz.prog aN ku ao2 Dx ao1 lf Tryz.f105
theorem aEm:H9 Tryz.prog aN Tryz.f105.ntmps ku ao2 Dx ao1 lf (codeOf Tryz.f105)=Tq:=by kernel_rfl
theorem atw(x0 x1 x2:V)(h:Hp):TN [x0,x1,x2] h=aT Tryz.prog [.tmp 6,.cell 7 3] (Tq (T.set (some x2) (Pos.of 2) (T.set (some x1) (Pos.of 1) (T.set (some x0) (Pos.of 0) T.nil))) h):=aKc (by kernel_rfl) aEm (by kernel_rfl) h
theorem aEa:aJ Tryz.prog aN 105 TN:=aKb aP (aS aEb (aS aI2 bC)) (avt azp aE5) Tryz.func105 (by kernel_rfl)
def agL(fr:F)(h:Hp):Out:=
 Out.nor (ss 5 (.bool false) (ss 4 (.str []) fr)) h
def agK(fr:F)(h:Hp):Out:=
 gtO (ge 0 fr) fun a=>aA (aY 2 a h) fun b c=>
 Out.nor (ss 10 (.int .i64 0) (ss 9 b (ss 8 a fr))) c
def agJ:=r2 11 10 9 fun a b h=>aI .lss .none a b h
def VJ(fr:F)(h:Hp):Out:=
 gtO (ge 8 fr) fun a=>gtO (ge 10 fr) fun b=>aA (bU 2 a b h) fun c d=>
 aA (bW 2 c d) fun i j=>
 aA (fC 263 [(.str []),(.str [])] j) fun m n=>
 aA (aO 2 m i n) fun _ o=>
 Out.nor (ss 7 m fr) o
def VI(fr:F)(h:Hp):Out:=
 gtO (ge 7 fr) fun a=>aA (aC 0 a h) fun b c=>
 aA (aF b c) fun d i=>
 aA (zh [d] i) fun j m=>
 gtO (ge 1 fr) fun n=>aA (zh [n] m) fun o p=>
 aA (aI .eql .none j o p) fun q r=>
 Out.nor (ss 19 q fr) r
def agI(fr:F)(h:Hp):Out:=
 gtO (ge 7 fr) fun a=>aA (aC 1 a h) fun b c=>
 aA (aF b c) fun d i=>
 Out.nor (ss 5 (.bool true) (ss 4 d fr)) i
def agH:=r1 10 10 fun a h=>aI .add .none a (.int .i64 1) h
def agG(fr:F)(h:Hp):Out:=
 Out.nor (ss 5 (.bool false) (ss 4 (.str []) fr)) h
def ayq:F→Hp→Out:=(aB agJ (aB (aV (.tmp 11) Out.nor (Out.ex 0)) (aB (bP 1 (aB VJ (aB VI (aV (.tmp 19) (aB agI Out.ret) Out.nor)))) agH)))
def Tt:F→Hp→Out:=(aB agL (aB (aB agK (bP 0 (dI ayq lf))) (aB agG Out.ret)))
def TP:Fun:=bG Tryz.prog (kp [0,1,4,5,7,8,9,10,11,19]) Tryz.f106.ntmps [.tmp 4,.tmp 5] Tt
theorem aty(x0 x1:V)(h:Hp):TP [x0,x1] h=aT Tryz.prog [.tmp 4,.tmp 5] (Tt (ss 1 x1 (ss 0 x0 T.nil)) h):=by kernel_rfl
theorem aEc:aJ Tryz.prog aN 106 TP:=prX aP [] [] (aW ahh bH) Tryz.func106
def ZU:=rC 4 (.str [])
def ZT(fr:F)(h:Hp):Out:=
 gtO (ge 0 fr) fun a=>aA (aY 1 a h) fun b c=>
 aA (TN [a,(.int .i64 0),b] c) fun d i=>
 aA (bJ 0 d i) fun j m=>
 aA (bJ 1 d m) fun n o=>
 Out.nor (ss 5 j fr) o
def ZR(fr:F)(h:Hp):Out:=
 gtO (ge 5 fr) fun a=>gtO (ge 1 fr) fun b=>aA (TP [a,b] h) fun c d=>
 aA (bJ 0 c d) fun i j=>
 aA (bJ 1 c j) fun m n=>
 Out.nor (ss 7 i fr) n
def ZQ:=rM 4 7
def VX:F→Hp→Out:=(aB ZU (aB ZT (aB ZR (aB ZQ Out.ret))))
def CY:Fun:=bG Tryz.prog (kp [0,1,4,5,7]) Tryz.f104.ntmps [.tmp 4] VX
theorem aps(x0 x1:V)(h:Hp):CY [x0,x1] h=aT Tryz.prog [.tmp 4] (VX (ss 1 x1 (ss 0 x0 T.nil)) h):=by kernel_rfl
theorem ayj:aJ Tryz.prog aN 104 CY:=prX aP [] [] (aW aEa (aW aEc bH)) Tryz.func104
def YD:FuncId→Option Fun:=kZ [(104,CY)]
def QL:=rC 4 (.int .i64 0)
def QK:=rC 5 (.func (.func 104) .nil .nil)
def QJ(fr:F)(h:Hp):Out:=
 gtO (ge 5 fr) fun a=>gtO (ge 1 fr) fun b=>aA (dX YD a [b,(.str [105,110,45,114,101,112,108,121,45,116,111])] h) fun c d=>
 Out.nor (ss 6 c fr) d
def QI:=r1 13 6 fun a h=>aI .eql .none a (.str []) h
def ady:=rC 4 (.int .i64 0)
def adx(fr:F)(h:Hp):Out:=
 gtO (ge 0 fr) fun a=>aA (aK a h) fun b c=>
 aA (aC 11 b c) fun d i=>
 aA (aF d i) fun j m=>
 aA (aY 2 j m) fun n o=>
 Out.nor (ss 19 (.int .i64 0) (ss 18 n (ss 17 j fr))) o
def adw:=r2 20 19 18 fun a b h=>aI .lss .none a b h
def QH(fr:F)(h:Hp):Out:=
 gtO (ge 17 fr) fun a=>gtO (ge 19 fr) fun b=>aA (bU 8 a b h) fun c d=>
 aA (bW 8 c d) fun i j=>
 aA (fC 40 [(.int .i64 0),(.int .i64 0),(.str []),(.int .i64 0),.aG,.aG,(.int .i64 0),(.int .i64 0)] j) fun m n=>
 aA (aO 8 m i n) fun _ o=>
 Out.nor (ss 8 m fr) o
def QG(fr:F)(h:Hp):Out:=
 gtO (ge 5 fr) fun a=>gtO (ge 8 fr) fun b=>aA (aC 2 b h) fun c d=>
 aA (aF c d) fun i j=>
 aA (dX YD a [i,(.str [109,101,115,115,97,103,101,45,105,100])] j) fun m n=>
 gtO (ge 6 fr) fun o=>aA (aI .eql .none m o n) fun p q=>
 Out.nor (ss 28 p fr) q
def adv(fr:F)(h:Hp):Out:=
 gtO (ge 8 fr) fun a=>aA (aC 1 a h) fun b c=>
 aA (aF b c) fun d i=>
 Out.nor (ss 4 d fr) i
def ZW:=r1 19 19 fun a h=>aI .add .none a (.int .i64 1) h
def ZV:=rC 4 (.int .i64 0)
def atg:F→Hp→Out:=(aB adw (aB (aV (.tmp 20) Out.nor (Out.ex 0)) (aB (bP 1 (aB QH (aB QG (aV (.tmp 28) (aB adv Out.ret) Out.nor)))) ZW)))
def EL:F→Hp→Out:=(aB QL (aB QK (aB QJ (aB (aB QI (aV (.tmp 13) (aB ady Out.ret) Out.nor)) (aB (aB adx (bP 0 (dI atg lf))) (aB ZV Out.ret))))))
def NT:Fun:=bG Tryz.prog (kp [0,1,4,5,6,8,13,17,18,19,20,28]) Tryz.f48.ntmps [.tmp 4] EL
theorem aq3(x0 x1:V)(h:Hp):NT [x0,x1] h=aT Tryz.prog [.tmp 4] (EL (ss 1 x1 (ss 0 x0 T.nil)) h):=by kernel_rfl
theorem azt:aJ Tryz.prog aN 48 NT:=prX aP [] [] (aW ayj bH) Tryz.func48
def QV(fr:F)(h:Hp):Out:=
 Out.nor (ss 11 (.int .i64 0) (ss 10 (.int .i64 0) fr)) h
def QU:=r1 22 0 fun a h=>aI .eql (.ptr 16) a .bY h
def QT(fr:F)(h:Hp):Out:=
 gtO (ge 1 fr) fun a=>aA (aY 2 a h) fun b c=>
 aA (aI .eql .none b (.int .i64 0) c) fun d i=>
 ifB d (Out.nor (ss 33 (.bool true) fr) i) (gtO (ge 3 fr) fun j=>aA (aI .lss .none j (.int .i64 0) i) fun m n=>
 ifB m (Out.nor (ss 33 (.bool true) fr) n) (aA (aI .gtr .none j (.int .i64 253402300799) n) fun o p=>
 Out.nor (ss 33 o fr) p))
def QS(fr:F)(h:Hp):Out:=
 gtO (ge 2 fr) fun a=>aA (XI [a] h) fun b c=>
 aA (bJ 0 b c) fun d i=>
 aA (bJ 1 b i) fun j m=>
 Out.nor (ss 13 j (ss 12 d fr)) m
def QO:=r1 40 13 fun a h=>aI .neq .none a (.int .i64 0) h
def QN(fr:F)(h:Hp):Out:=
 gtO (ge 0 fr) fun a=>gtO (ge 1 fr) fun b=>aA (NS [a,b] h) fun c d=>
 aA (bJ 0 c d) fun i j=>
 aA (bJ 1 c j) fun m n=>
 Out.nor (ss 15 m (ss 14 i fr)) n
def QM:=r1 48 15 fun a h=>oUn .not a h
def MB(fr:F)(h:Hp):Out:=
 gtO (ge 0 fr) fun a=>aA (aK a (aH 0 h)) fun b _=>
 aA (aC 11 b (aH 0 h)) fun c _=>
 aA (aF c (aH 0 h)) fun d _=>
 aA (aY 2 d (aH 0 h)) fun i _=>
 gtO (ge 0 fr) fun j=>aA (aK j (aH 0 h)) fun m _=>
 aA (aC 0 m (aH 0 h)) fun n _=>
 aA (aC 2 n (aH 0 h)) fun o _=>
 aA (aF o (aH 0 h)) fun p _=>
 aA (aI .geq .none i p (aH 0 h)) fun q _=>
 Out.nor (ss 51 q fr) (aH 0 h)
def Me(fr:F)(h:Hp):Out:=
 gtO (ge 4 fr) fun a=>aA (aY 1 a (aH 0 h)) fun b _=>
 gtO (ge 0 fr) fun c=>aA (aK c (aH 0 h)) fun d _=>
 aA (aC 0 d (aH 0 h)) fun i _=>
 aA (aC 4 i (aH 0 h)) fun j _=>
 aA (aF j (aH 0 h)) fun m _=>
 gtO (ge 0 fr) fun n=>aA (aK n (aH 0 h)) fun o _=>
 aA (aC 15 o (aH 0 h)) fun p _=>
 aA (aF p (aH 0 h)) fun q _=>
 aA (aI .sub .none m q (aH 0 h)) fun r _=>
 aA (aI .gtr .none b r (aH 0 h)) fun s _=>
 Out.nor (ss 51 s fr) (aH 0 h)
def Md:=r1 76 0 fun a h=>PN [a] h
def Mc(fr:F)(h:Hp):Out:=
 gtO (ge 14 fr) fun a=>gtO (ge 0 fr) fun b=>aA (fK (.func 47) [b] [] h) fun c d=>
 aA (jm [a,c] d) fun i j=>
 Out.nor (ss 76 i fr) j
def LZ:=r1 16 0 fun a h=>PL [a] h
def LY(fr:F)(h:Hp):Out:=
 gtO (ge 0 fr) fun a=>aA (aK a h) fun b c=>
 aA (aC 14 b c) fun d i=>
 aA (aF d i) fun j m=>
 aA (aI .add .none j (.int .i64 1) m) fun n o=>
 aA (aK a o) fun p q=>
 aA (aC 14 p q) fun r s=>
 aA (aO 1 r n s) fun _ t=>
 Out.nor fr t
def LX(fr:F)(h:Hp):Out:=
 gtO (ge 0 fr) fun a=>gtO (ge 4 fr) fun b=>aA (NT [a,b] (aH 1 h)) fun c d=>
 gtO (ge 0 fr) fun i=>aA (aK i d) fun j _=>
 aA (aC 14 j d) fun m _=>
 aA (aF m d) fun n _=>chk (fun h=>aF m h) n (
 gtO (ge 4 fr) fun o=>gtO (ge 3 fr) fun p=>gtO (ge 12 fr) fun q=>gtO (ge 16 fr) fun r=>gtO (ge 16 fr) fun s=>aA (bK [(.int .i64 0),(.int .i64 0),(.str []),(.int .i64 0),.aG,.aG,(.int .i64 0),(.int .i64 0)] [(0,1,n),(1,1,c),(2,1,o),(3,1,p),(4,1,q),(6,1,r),(7,1,s)] d) fun t _=>
 FT (aqo 40 [(.int .i64 0),(.int .i64 0),(.str []),(.int .i64 0),.aG,.aG,(.int .i64 0),(.int .i64 0)]) fun ob13 mk13=>
 aA (aO 8 (mk13 (Hp.next h)) t (Hp.put d (Hp.next h) (some ob13))) fun _ u=>
 Out.nor (ss 17 (mk13 (Hp.next h)) fr) u) 1 [(aH 1 h)]
def LW:=rC 18 (.int .i64 2)
def LV(fr:F)(h:Hp):Out:=
 gtO (ge 17 fr) fun a=>aA (aC 1 a h) fun b c=>
 aA (aF b c) fun d i=>
 aA (aI .eql .none d (.int .i64 0) i) fun j m=>
 Out.nor (ss 107 j fr) m
def LU(fr:F)(h:Hp):Out:=
 gtO (ge 17 fr) fun a=>aA (aC 0 a h) fun b c=>
 aA (aF b c) fun d i=>
 aA (aC 1 a i) fun j m=>
 aA (aO 1 j d m) fun _ n=>
 Out.nor (ss 18 (.int .i64 1) fr) n
def LQ(fr:F)(h:Hp):Out:=
 gtO (ge 14 fr) fun a=>aA (aY 2 a h) fun b c=>
 Out.nor (ss 113 (.int .i64 0) (ss 112 b (ss 111 a fr))) c
def Z5:=r2 114 113 112 fun a b h=>aI .lss .none a b h
def Z4(fr:F)(h:Hp):Out:=
 gtO (ge 111 fr) fun a=>gtO (ge 113 fr) fun b=>aA (bU 1 a b h) fun c d=>
 aA (aF c d) fun i j=>
 Out.nor (ss 20 i fr) j
def ZY(fr:F)(h:Hp):Out:=
 gtO (ge 0 fr) fun a=>gtO (ge 20 fr) fun b=>aA (NU [a,b] (aH 1 h)) fun c d=>
 gtO (ge 17 fr) fun i=>aA (aC 5 i d) fun j _=>
 aA (aF j d) fun m _=>chk (fun h=>aF j h) m (
 FT (fD 106 [(.int .i64 0),(.int .i64 0)] 1 [(0,2,c)]) fun ob5 mk5=>
 aA (bT 106 2 16 m (mk5 (Hp.next h)) (Hp.put d (Hp.next h) (some ob5))) fun n o=>
 gtO (ge 17 fr) fun p=>aA (aC 5 p o) fun q _=>
 aA (aO 1 q n o) fun _ r=>
 Out.nor fr r) 1 [(aH 1 h)]
def ZX:=r1 113 113 fun a h=>aI .add .none a (.int .i64 1) h
def LP(fr:F)(h:Hp):Out:=
 gtO (ge 0 fr) fun a=>aA (aK a (aH 1 h)) fun b _=>
 aA (aC 11 b (aH 1 h)) fun c _=>
 aA (aF c (aH 1 h)) fun d _=>
 gtO (ge 17 fr) fun i=>aA (bW 8 i (aH 1 h)) fun j _=>
 FT (fD 40 [(.int .i64 0),(.int .i64 0),(.str []),(.int .i64 0),.aG,.aG,(.int .i64 0),(.int .i64 0)] 1 [(0,8,j)]) fun ob6 mk6=>
 aA (bT 40 8 104 d (mk6 (Hp.next h)) (Hp.put (aH 1 h) (Hp.next h) (some ob6))) fun m n=>
 gtO (ge 0 fr) fun o=>aA (aK o n) fun p _=>
 aA (aC 11 p n) fun q _=>
 aA (aO 1 q m n) fun _ r=>
 Out.nor fr r
def LK(fr:F)(h:Hp):Out:=
 gtO (ge 0 fr) fun a=>aA (aK a h) fun b c=>
 aA (aC 15 b c) fun d i=>
 aA (aF d i) fun j m=>
 gtO (ge 4 fr) fun n=>aA (aY 1 n m) fun o p=>
 aA (aI .add .none j o p) fun q r=>
 aA (aK a r) fun s t=>
 aA (aC 15 s t) fun u v=>
 aA (aO 1 u q v) fun _ w=>
 Out.nor fr w
def LJ(fr:F)(h:Hp):Out:=
 gtO (ge 0 fr) fun a=>gtO (ge 16 fr) fun b=>gtO (ge 14 fr) fun c=>aA (EQ [a,b,c] (aH 1 h)) fun d i=>
 gtO (ge 16 fr) fun j=>gtO (ge 17 fr) fun m=>aA (aC 0 m i) fun n _=>
 aA (aF n i) fun o _=>chk (fun h=>aF n h) o (
 aA (bK [(.int .i64 0),(.int .i64 0),(.int .i64 0),(.int .i64 0)] [(0,1,j),(1,1,(.int .i64 2)),(2,1,o),(3,1,(.int .i64 1))] i) fun p _=>
 gtO (ge 16 fr) fun q=>gtO (ge 17 fr) fun r=>aA (aC 1 r i) fun s _=>
 aA (aF s i) fun t _=>chk (fun h=>aF s h) t (
 gtO (ge 18 fr) fun u=>aA (bK [(.int .i64 0),(.int .i64 0),(.int .i64 0),(.int .i64 0)] [(0,1,q),(1,1,(.int .i64 3)),(2,1,t),(3,1,u)] i) fun v _=>
 FT (fD 85 [(.int .i64 0),(.int .i64 0),(.int .i64 0),(.int .i64 0),(.int .i64 0),(.int .i64 0),(.int .i64 0),(.int .i64 0)] 2 [(0,4,p),(4,4,v)]) fun ob17 mk17=>
 aA (bT 85 4 32 d (mk17 (Hp.next h)) (Hp.put i (Hp.next h) (some ob17))) fun w x=>
 gtO (ge 0 fr) fun y=>aA (aK y x) fun z _=>
 aA (aC 12 z x) fun aa _=>
 aA (aF aa x) fun ab _=>chk (fun h=>aF aa h) ab (
 aA (Nl [ab,w] x) fun ac ad=>
 Out.nor fr ad) 2 [i,(aH 1 h)]) 1 [(aH 1 h)]) 1 [(aH 1 h)]
def LH(fr:F)(h:Hp):Out:=
 gtO (ge 17 fr) fun a=>aA (aC 0 a h) fun b c=>
 aA (aF b c) fun d i=>
 Out.nor (ss 11 (.int .i64 0) (ss 10 d fr)) i
def aan:F→Hp→Out:=(aB Z5 (aB (aV (.tmp 114) Out.nor (Out.ex 1)) (aB (bP 2 (aB Z4 ZY)) ZX)))
def EM:F→Hp→Out:=(aB QV (aB (aB QU (aV (.tmp 22) zz Out.nor)) (aB (aB QT (aV (.tmp 33) zz Out.nor)) (aB QS (aB (aB QO (aV (.tmp 40) zz Out.nor)) (aB QN (aB (bP 0 (aB QM (aV (.tmp 48) zz (aB (aB MB (aV (.tmp 51) Out.nor Me)) (aV (.tmp 51) zz (aB (aB Md (aV (.tmp 76) Out.nor Mc)) (aV (.tmp 76) zz Out.nor))))))) (aB LZ (aB LY (aB LX (aB LW (aB (aB LV (aV (.tmp 107) LU Out.nor)) (aB (aB LQ (bP 1 (dI aan lf))) (aB LP (aB LK (aB LJ (aB LH Out.ret)))))))))))))))))
def NW:Fun:=bG Tryz.prog (kp [0,1,2,3,4,10,11,12,13,14,15,16,17,18,20,22,33,40,48,51,76,107,111,112,113,114]) Tryz.f20.ntmps [.tmp 10,.tmp 11] EM
theorem aq6(x0 x1 x2 x3 x4:V)(h:Hp):NW [x0,x1,x2,x3,x4] h=aT Tryz.prog [.tmp 10,.tmp 11] (EM (ss 4 x4 (ss 3 x3 (ss 2 x2 (ss 1 x1 (ss 0 x0 T.nil))))) h):=by kernel_rfl
theorem azw:aJ Tryz.prog aN 20 NW:=prX aP [2,4,7,10,13,16] [(11,[0,1,3,7,15,0,32,96,224,480,1023,2047],fO [0,16,32,51,64,80,96,112,128,147,160,176]),(12,[0,1,0,4,12,28,60,0,128,384,896,2044,4095,8191],fO [0,16,32,48,64,80,99,112,128,144,163,176,192,208]),(19,[0,1,3,7,0,0,48,0,0,0,0,0,4095,0,16383],fO [64,80,98,0,16,32,52,112,128,144,160,176,192,209,226]),(26,[0,1,0,0,12,28,63,127,255],fO [32,48,66,0,20,81,98,112,130]),(28,[0,0,2,6,14,0,32,126,255,511,1023],fO [16,32,48,67,83,97,114,0,128,144,162]),(30,[0,1,3,7,0,0,0,112,0,0,512,1792,0,0,8192,0,61440,130816,262128,524287],fO [64,80,96,114,128,144,164,176,192,208,228,240,256,273,290,0,16,32,53,306])] (aW aGU (aW azs (aW asM (aW JA (aW asL (aW azt (aW azu (aW aj7 (aW aym bH))))))))) Tryz.func20
def aoM(fr:F)(h:Hp):Out:=
 Out.nor (ss 3 (.int .i64 0) (ss 2 .bY fr)) h
def aoL:=r1 5 0 fun a h=>aI .lss .none a (.int .i64 1) h
def aoK(fr:F)(h:Hp):Out:=
 gtO (ge 0 fr) fun a=>aA (bK [(.int .i64 0),.aG,(.int .i64 0)] [(0,1,a)] h) fun b c=>
 aA (fV 130 b c) fun d i=>
 Out.nor (ss 3 (.int .i64 0) (ss 2 d fr)) i
def al2:F→Hp→Out:=(aB aoM (aB (aB aoL (aV (.tmp 5) zz Out.nor)) (aB aoK Out.ret)))
def acN:Fun:=bG Tryz.prog (kp [0,2,3,5]) Tryz.f55.ntmps [.tmp 2,.tmp 3] al2
theorem azP(x0:V)(h:Hp):acN [x0] h=aT Tryz.prog [.tmp 2,.tmp 3] (al2 (ss 0 x0 T.nil) h):=by kernel_rfl
theorem aI0:aJ Tryz.prog aN 55 acN:=prX aP [2] [] bH Tryz.func55
def aov(fr:F)(h:Hp):Out:=
 gtO (ge 0 fr) fun a=>aA (fV 62 a h) fun b c=>
 Out.nor (ss 3 (.int .i64 0) (ss 2 .bY (ss 1 b fr))) c
def aou(fr:F)(h:Hp):Out:=
 gtO (ge 1 fr) fun a=>aA (aC 0 a h) fun b c=>
 aA (aF b c) fun d i=>
 aA (wZ [d] i) fun j m=>
 aA (oUn .not j m) fun n o=>
 ifB n (Out.nor (ss 18 (.bool true) fr) o) (aA (aC 1 a o) fun p q=>
 aA (aF p q) fun r s=>
 aA (wZ [r] s) fun t u=>
 aA (oUn .not t u) fun v w=>
 Out.nor (ss 18 v fr) w)
def aot(fr:F)(h:Hp):Out:=
 gtO (ge 1 fr) fun a=>aA (aC 2 a h) fun b c=>
 aA (aF b c) fun d i=>
 aA (aC 3 a i) fun j m=>
 aA (aF j m) fun n o=>
 aA (aC 4 a o) fun p q=>
 aA (aF p q) fun r s=>
 aA (aC 5 a s) fun t u=>
 aA (aF t u) fun v w=>
 aA (aC 6 a w) fun x y=>
 aA (aF x y) fun z aa=>
 aA (aC 7 a aa) fun ab ac=>
 aA (aF ab ac) fun ad ae=>
 aA (aC 8 a ae) fun af ag=>
 aA (aF af ag) fun ah ai=>
 aA (bI 3 [(.int .i64 0),(.int .i64 0),(.int .i64 0),(.int .i64 0),(.int .i64 0),(.int .i64 0),(.int .i64 0)] 7 [(0,1,d),(1,1,n),(2,1,r),(3,1,v),(4,1,z),(5,1,ad),(6,1,ah)] ai) fun aj ak=>
 aA (aY 2 aj ak) fun al am=>
 Out.nor (ss 35 (.int .i64 0) (ss 34 al (ss 33 aj fr))) am
def aos:=r2 36 35 34 fun a b h=>aI .lss .none a b h
def aor(fr:F)(h:Hp):Out:=
 gtO (ge 33 fr) fun a=>gtO (ge 35 fr) fun b=>aA (bU 1 a b h) fun c d=>
 aA (aF c d) fun i j=>
 Out.nor (ss 5 i fr) j
def aoq(fr:F)(h:Hp):Out:=
 gtO (ge 5 fr) fun a=>aA (aI .lss .none a (.int .i64 1) h) fun b c=>
 ifB b (Out.nor (ss 44 (.bool true) fr) c) (aA (aI .gtr .none a (.int .i64 2147483647) c) fun d i=>
 Out.nor (ss 44 d fr) i)
def aop:=r1 35 35 fun a h=>aI .add .none a (.int .i64 1) h
def aoo(fr:F)(h:Hp):Out:=
 gtO (ge 1 fr) fun a=>aA (aC 7 a h) fun b c=>
 aA (aF b c) fun d i=>
 aA (acN [d] i) fun j m=>
 aA (bJ 0 j m) fun n o=>
 aA (bJ 1 j o) fun p q=>
 Out.nor (ss 6 n fr) q
def ajh(fr:F)(h:Hp):Out:=
 gtO (ge 1 fr) fun a=>aA (bW 9 a h) fun b c=>
 aA (bK [(.int .i64 0),(.str []),(.int .i64 0),(.int .i64 0),(.int .i64 0),(.int .i64 0)] [(0,1,(.int .i64 1)),(1,1,(.str [73,78,66,79,88])),(3,1,(.int .i64 1)),(4,1,(.int .i64 1)),(5,1,(.int .i64 1))] c) fun d i=>
 aA (bI 55 [(.int .i64 0),(.str []),(.int .i64 0),(.int .i64 0),(.int .i64 0),(.int .i64 0)] 1 [(0,6,d)] i) fun j m=>
 gtO (ge 6 fr) fun n=>aA (bK [(.str []),(.str []),(.int .i64 0),(.int .i64 0),(.int .i64 0),(.int .i64 0),(.int .i64 0),(.int .i64 0),(.int .i64 0),(.int .i64 0),.aG,.aG,.bY,(.int .i64 0),(.int .i64 0),(.int .i64 0)] [(0,9,b),(10,1,j),(12,1,n),(13,1,(.int .i64 1))] m) fun o p=>
 aA (fV 78 o p) fun q r=>
 Out.nor (ss 8 q fr) r
def ajg(fr:F)(h:Hp):Out:=
 gtO (ge 8 fr) fun a=>aA (aK a h) fun b c=>
 aA (aC 9 b c) fun d i=>
 aA (qE [d,(.int .i64 1)] i) fun j m=>
 Out.nor fr m
def ajf(fr:F)(h:Hp):Out:=
 gtO (ge 8 fr) fun a=>Out.nor (ss 3 (.int .i64 0) (ss 2 a fr)) h
def aEf:F→Hp→Out:=(aB aos (aB (aV (.tmp 36) Out.nor (Out.ex 0)) (aB (bP 1 (aB aor (aB aoq (aV (.tmp 44) zz Out.nor)))) aop)))
def acd:F→Hp→Out:=(aB aov (aB (aB aou (aV (.tmp 18) zz Out.nor)) (aB (aB aot (bP 0 (dI aEf lf))) (aB aoo (aB ajh (aB ajg (aB ajf Out.ret)))))))
def acI:Fun:=bG Tryz.prog (kp [0,1,2,3,5,6,8,18,33,34,35,36,44]) Tryz.f26.ntmps [.tmp 2,.tmp 3] acd
theorem azJ(x0:V)(h:Hp):acI [x0] h=aT Tryz.prog [.tmp 2,.tmp 3] (acd (ss 0 x0 T.nil) h):=by kernel_rfl
theorem aIW:aJ Tryz.prog aN 26 acI:=prX aP [2,7] [] (aW asK (aW aI0 (aW TA bH))) Tryz.func26
def ajE(fr:F)(h:Hp):Out:=
 aA (fC 62 [(.str []),(.str []),(.int .i64 0),(.int .i64 0),(.int .i64 0),(.int .i64 0),(.int .i64 0),(.int .i64 0),(.int .i64 0)] h) fun a b=>
 Out.nor (ss 0 a fr) b
def ajD(fr:F)(h:Hp):Out:=
 aA (bK [(.str []),(.str []),(.int .i64 0),(.int .i64 0),(.int .i64 0),(.int .i64 0),(.int .i64 0),(.int .i64 0),(.int .i64 0)] [(0,1,(.str [117])),(1,1,(.str [112])),(2,1,(.int .i64 1000)),(3,1,(.int .i64 100)),(4,1,(.int .i64 1048576)),(5,1,(.int .i64 1073741824)),(6,1,(.int .i64 1073741824)),(7,1,(.int .i64 10000)),(8,1,(.int .i64 200))] h) fun a b=>
 gtO (ge 0 fr) fun c=>aA (aO 9 c a b) fun _ d=>
 Out.nor fr d
def ag6:F→Hp→Out:=(aB ajE (aB ajD Out.ret))
def XG:Fun:=bG Tryz.prog (kp [0]) Tryz.f27.ntmps [.cell 0 62] ag6
theorem ayD(h:Hp):XG [] h=aT Tryz.prog [.cell 0 62] (ag6 T.nil h):=by kernel_rfl
theorem aGP:aJ Tryz.prog aN 27 XG:=prX aP [] [] bH Tryz.func27
def aoJ:=rC 2 (.int .i64 0)
def aoI:=rM 2 0
def al1:F→Hp→Out:=(aB aoJ (aB aoI Out.ret))
def acM:Fun:=bG Tryz.prog (kp [0,2]) Tryz.f28.ntmps [.tmp 2] al1
theorem azO(x0:V)(h:Hp):acM [x0] h=aT Tryz.prog [.tmp 2] (al1 (ss 0 x0 T.nil) h):=by kernel_rfl
theorem aIY:aJ Tryz.prog aN 28 acM:=prX aP [] [] bH Tryz.func28
def aGF:=rC 0 .bY
def aGE(fr:F)(h:Hp):Out:=
 aA (bK [(.bool false),.bY,(.bool false),(.int .i64 0),.jQ] [] h) fun a b=>
 aA (fV 119 a b) fun c d=>
 Out.nor (ss 1 c fr) d
def aGD(fr:F)(h:Hp):Out:=
 gtO (ge 1 fr) fun a=>aA (aaO h) fun b c=>
 aA (fK (.func 57) [a] [] c) fun d i=>
 aA (bK [.gG,(.int .i64 0),(.bool false)] [(0,1,d),(1,1,(.int .i64 0)),(2,1,(.bool false))] i) fun j m=>
 aA (gI .string b (.str [99,97,112,97,98,105,108,105,116,121]) j m) fun _ n=>
 aA (fK (.func 58) [a] [] n) fun o p=>
 aA (bK [.gG,(.int .i64 0),(.bool false)] [(0,1,o),(1,1,(.int .i64 0)),(2,1,(.bool false))] p) fun q r=>
 aA (gI .string b (.str [110,111,111,112]) q r) fun _ s=>
 aA (fK (.func 59) [a] [] s) fun t u=>
 aA (bK [.gG,(.int .i64 0),(.bool false)] [(0,1,t),(1,1,(.int .i64 0)),(2,1,(.bool false))] u) fun v w=>
 aA (gI .string b (.str [108,111,103,111,117,116]) v w) fun _ x=>
 aA (fK (.func 60) [a] [] x) fun y z=>
 aA (bK [.gG,(.int .i64 0),(.bool false)] [(0,1,y),(1,1,(.int .i64 1)),(2,1,(.bool false))] z) fun aa ab=>
 aA (gI .string b (.str [108,111,103,105,110]) aa ab) fun _ ac=>
 aA (fK (.func 61) [a] [] ac) fun ad ae=>
 aA (bK [.gG,(.int .i64 0),(.bool false)] [(0,1,ad),(1,1,(.int .i64 2)),(2,1,(.bool false))] ae) fun af ag=>
 aA (gI .string b (.str [115,101,108,101,99,116]) af ag) fun _ ah=>
 aA (fK (.func 62) [a] [] ah) fun ai aj=>
 aA (bK [.gG,(.int .i64 0),(.bool false)] [(0,1,ai),(1,1,(.int .i64 2)),(2,1,(.bool false))] aj) fun ak al=>
 aA (gI .string b (.str [101,120,97,109,105,110,101]) ak al) fun _ am=>
 aA (fK (.func 63) [a] [] am) fun an ao=>
 aA (bK [.gG,(.int .i64 0),(.bool false)] [(0,1,an),(1,1,(.int .i64 2)),(2,1,(.bool false))] ao) fun ap aq=>
 aA (gI .string b (.str [99,114,101,97,116,101]) ap aq) fun _ ar=>
 aA (fK (.func 64) [a] [] ar) fun au av=>
 aA (bK [.gG,(.int .i64 0),(.bool false)] [(0,1,au),(1,1,(.int .i64 2)),(2,1,(.bool false))] av) fun aw ax=>
 aA (gI .string b (.str [100,101,108,101,116,101]) aw ax) fun _ ay=>
 aA (fK (.func 65) [a] [] ay) fun az ba=>
 aA (bK [.gG,(.int .i64 0),(.bool false)] [(0,1,az),(1,1,(.int .i64 2)),(2,1,(.bool false))] ba) fun bb bc=>
 aA (gI .string b (.str [114,101,110,97,109,101]) bb bc) fun _ bd=>
 aA (fK (.func 66) [a] [] bd) fun be bf=>
 aA (bK [.gG,(.int .i64 0),(.bool false)] [(0,1,be),(1,1,(.int .i64 2)),(2,1,(.bool false))] bf) fun bg bh=>
 aA (gI .string b (.str [108,105,115,116]) bg bh) fun _ bi=>
 aA (fK (.func 67) [a] [] bi) fun bj bk=>
 aA (bK [.gG,(.int .i64 0),(.bool false)] [(0,1,bj),(1,1,(.int .i64 2)),(2,1,(.bool false))] bk) fun bl bm=>
 aA (gI .string b (.str [115,116,97,116,117,115]) bl bm) fun _ bn=>
 aA (fK (.func 68) [a] [] bn) fun bo bp=>
 aA (bK [.gG,(.int .i64 0),(.bool false)] [(0,1,bo),(1,1,(.int .i64 2)),(2,1,(.bool false))] bp) fun bq br=>
 aA (gI .string b (.str [97,112,112,101,110,100]) bq br) fun _ bs=>
 aA (fK (.func 58) [a] [] bs) fun bt bu=>
 aA (bK [.gG,(.int .i64 0),(.bool false)] [(0,1,bt),(1,1,(.int .i64 3)),(2,1,(.bool false))] bu) fun bv bw=>
 aA (gI .string b (.str [99,104,101,99,107]) bv bw) fun _ bx=>
 aA (fK (.func 69) [a] [] bx) fun bz ca=>
 aA (bK [.gG,(.int .i64 0),(.bool false)] [(0,1,bz),(1,1,(.int .i64 3)),(2,1,(.bool false))] ca) fun cb cc=>
 aA (gI .string b (.str [99,108,111,115,101]) cb cc) fun _ cd=>
 aA (fK (.func 70) [a] [] cd) fun ce cf=>
 aA (bK [.gG,(.int .i64 0),(.bool false)] [(0,1,ce),(1,1,(.int .i64 3)),(2,1,(.bool true))] cf) fun cg ch=>
 aA (gI .string b (.str [101,120,112,117,110,103,101]) cg ch) fun _ ci=>
 aA (fK (.func 71) [a] [] ci) fun cj ck=>
 aA (bK [.gG,(.int .i64 0),(.bool false)] [(0,1,cj),(1,1,(.int .i64 3)),(2,1,(.bool true))] ck) fun cl cm=>
 aA (gI .string b (.str [115,101,97,114,99,104]) cl cm) fun _ cn=>
 aA (fK (.func 72) [a] [] cn) fun co cp=>
 aA (bK [.gG,(.int .i64 0),(.bool false)] [(0,1,co),(1,1,(.int .i64 3)),(2,1,(.bool true))] cp) fun cq cr=>
 aA (gI .string b (.str [102,101,116,99,104]) cq cr) fun _ cs=>
 aA (fK (.func 73) [a] [] cs) fun ct cu=>
 aA (bK [.gG,(.int .i64 0),(.bool false)] [(0,1,ct),(1,1,(.int .i64 3)),(2,1,(.bool true))] cu) fun cv cw=>
 aA (gI .string b (.str [115,116,111,114,101]) cv cw) fun _ cx=>
 aA (fK (.func 74) [a] [] cx) fun cy cz=>
 aA (bK [.gG,(.int .i64 0),(.bool false)] [(0,1,cy),(1,1,(.int .i64 3)),(2,1,(.bool true))] cz) fun da db=>
 aA (gI .string b (.str [99,111,112,121]) da db) fun _ dc=>
 aA (fK (.func 75) [a] [] dc) fun dd de=>
 aA (bK [.gG,(.int .i64 0),(.bool false)] [(0,1,dd),(1,1,(.int .i64 3)),(2,1,(.bool true))] de) fun df dg=>
 aA (gI .string b (.str [109,111,118,101]) df dg) fun _ dh=>
 aA (aK a dh) fun di dj=>
 aA (aC 4 di dj) fun dk dl=>
 aA (aO 1 dk b dl) fun _ dm=>
 Out.nor fr dm
def aGC:=rM 0 1
def aIP:F→Hp→Out:=(aB aGF (aB aGE (aB aGD (aB aGC Out.ret))))
def aEk:Fun:=bG Tryz.prog (kp [0,1]) Tryz.f29.ntmps [.tmp 0] aIP
theorem aNb(h:Hp):aEk [] h=aT Tryz.prog [.tmp 0] (aIP T.nil h):=by kernel_rfl
theorem aQq:aJ Tryz.prog aN 29 aEk:=prX aP [] [] bH Tryz.func29
abbrev amf:Fun:=Ik.l7
theorem aIZ:aJ Tryz.prog aN 40 amf:=Ik.oI
abbrev ahl:Fun:=Ik.kJ
theorem aGN:aJ Tryz.prog aN 41 ahl:=Ik.ou
def aoH:=rC 6 (.str [])
def aoG(fr:F)(h:Hp):Out:=
 aA (amf [(.int .i64 4000)] h) fun a b=>
 gtO (ge 2 fr) fun c=>aA (Gn c b) fun d i=>
 aA (ahl [a,d] i) fun j m=>
 Out.nor (ss 7 j fr) m
def aoF:=rC 8 (.str [])
def aoE:=rC 9 (.int .i64 0)
def SS(fr:F)(h:Hp):Out:=
 gtO (ge 9 fr) fun a=>gtO (ge 7 fr) fun b=>aA (aY 2 b h) fun c d=>
 aA (aI .lss .none a c d) fun i j=>
 Out.nor (ss 19 i fr) j
def abM(fr:F)(h:Hp):Out:=
 gtO (ge 0 fr) fun a=>gtO (ge 1 fr) fun b=>gtO (ge 7 fr) fun c=>gtO (ge 9 fr) fun d=>aA (bU 2 c d h) fun i j=>
 aA (bW 2 i j) fun m n=>
 aA (aid [a,b,(.int .i64 0),m] n) fun o p=>
 aA (bJ 0 o p) fun q r=>
 aA (bJ 1 o r) fun s t=>
 Out.nor (ss 11 s (ss 10 q fr)) t
def abL:=r2 8 8 10 fun a b h=>aI .add .none a b h
def abK:=r1 36 11 fun a h=>oUn .not a h
def aoD:=r1 9 9 fun a h=>aI .add .none a (.int .i64 1) h
def aoC:=rM 6 8
def TB:F→Hp→Out:=(aB (aB SS (aV (.tmp 19) Out.nor (Out.ex 0))) (aB (bP 1 (aB abM (aB abL (aB abK (aV (.tmp 36) (Out.ex 0) Out.nor))))) aoD))
def aci:F→Hp→Out:=(aB aoH (aB aoG (aB aoF (aB (aB aoE (bP 0 (dI TB lf))) (aB aoC Out.ret)))))
def Nk:Fun:=bG Tryz.prog (kp [0,1,2,6,7,8,9,10,11,19,36]) Tryz.f13.ntmps [.tmp 6] aci
theorem azN(x0 x1 x2:V)(h:Hp):Nk [x0,x1,x2] h=aT Tryz.prog [.tmp 6] (aci (ss 2 x2 (ss 1 x1 (ss 0 x0 T.nil))) h):=by kernel_rfl
theorem ayl:aJ Tryz.prog aN 13 Nk:=prX aP [] [] (aW aIZ (aW aGN (aW aPU bH))) Tryz.func13
def ast:=rC 2 .bY
def asr(fr:F)(h:Hp):Out:=
 aA (aEk [] h) fun a b=>
 Out.nor (ss 3 a fr) b
def asq(fr:F)(h:Hp):Out:=
 gtO (ge 3 fr) fun a=>gtO (ge 0 fr) fun b=>aA (Nk [a,b,(.str [97,32,76,79,71,73,78,32,117,32,112,13,10,98,32,83,69,76,69,67,84,32,73,78,66,79,88,13,10])] h) fun c d=>
 Out.nor fr d
def aso:=rM 2 3
def aqV:F→Hp→Out:=(aB ast (aB asr (aB asq (aB aso Out.ret))))
def aia:Fun:=bG Tryz.prog (kp [0,2,3]) Tryz.f12.ntmps [.tmp 2] aqV
theorem aEj(x0:V)(h:Hp):aia [x0] h=aT Tryz.prog [.tmp 2] (aqV (ss 0 x0 T.nil) h):=by kernel_rfl
theorem aNa:aJ Tryz.prog aN 12 aia:=prX aP [] [] (aW aQq (aW ayl bH)) Tryz.func12
def adN:=rC 2 .bY
def adM(fr:F)(h:Hp):Out:=
 aA (XG [] h) fun a b=>
 aA (acI [a] b) fun c d=>
 aA (bJ 0 c d) fun i j=>
 aA (bJ 1 c j) fun m n=>
 Out.nor (ss 4 m (ss 3 i fr)) n
def adL(fr:F)(h:Hp):Out:=
 gtO (ge 4 fr) fun a=>aA (acM [a] h) fun b c=>
 aA (aI .neq .none b (.int .i64 0) c) fun d i=>
 ifB d (Out.nor (ss 17 (.bool true) fr) i) (gtO (ge 3 fr) fun j=>aA (aI .eql (.ptr 16) j .bY i) fun m n=>
 Out.nor (ss 17 m fr) n)
def adK:=rC 5 (.int .i64 0)
def QW(fr:F)(h:Hp):Out:=
 gtO (ge 5 fr) fun a=>gtO (ge 0 fr) fun b=>aA (aY 2 b h) fun c d=>
 aA (aI .lss .none a c d) fun i j=>
 Out.nor (ss 21 i fr) j
def adI(fr:F)(h:Hp):Out:=
 gtO (ge 3 fr) fun a=>aA (bI 3 [(.int .i64 0)] 1 [(0,1,(.int .i64 1))] h) fun b c=>
 gtO (ge 5 fr) fun d=>gtO (ge 0 fr) fun i=>aA (bU 1 i d c) fun j m=>
 aA (aF j m) fun n o=>
 aA (NW [a,b,.aG,d,n] o) fun p q=>
 Out.nor fr q
def adJ:=r1 5 5 fun a h=>aI .add .none a (.int .i64 1) h
def adH:=rM 2 3
def Rh:F→Hp→Out:=(aB (aB QW (aV (.tmp 21) Out.nor (Out.ex 0))) (aB (bP 1 adI) adJ))
def NQ:F→Hp→Out:=(aB adN (aB adM (aB (aB adL (aV (.tmp 17) zz Out.nor)) (aB (aB adK (bP 0 (dI Rh lf))) (aB adH Out.ret)))))
def NY:Fun:=bG Tryz.prog (kp [0,2,3,4,5,17,21]) Tryz.f10.ntmps [.tmp 2] NQ
theorem aq7(x0:V)(h:Hp):NY [x0] h=aT Tryz.prog [.tmp 2] (NQ (ss 0 x0 T.nil) h):=by kernel_rfl
theorem azy:aJ Tryz.prog aN 10 NY:=prX aP [3] [] (aW aGP (aW aIW (aW aIY (aW azw bH)))) Tryz.func10
abbrev TJ:Fun:=Ik.aFQ
theorem aD7:aJ Tryz.prog aN 9 TJ:=Ik.aOO
def agq:=rC 2 (.bool false)
def agp:=rC 3 (.int .i64 0)
def Cj(fr:F)(h:Hp):Out:=
 gtO (ge 3 fr) fun a=>gtO (ge 0 fr) fun b=>aA (aY 2 b h) fun c d=>
 aA (aI .lss .none a c d) fun i j=>
 ifB i (aA (aI .lss .none a (.int .i64 20) j) fun m n=>
 Out.nor (ss 11 m fr) n) (Out.nor (ss 11 (.bool false) fr) j)
def VD(fr:F)(h:Hp):Out:=
 gtO (ge 0 fr) fun a=>gtO (ge 3 fr) fun b=>aA (bU 1 a b h) fun c d=>
 aA (aF c d) fun i j=>
 aA (aY 1 i j) fun m n=>
 aA (aI .gtr .none m (.int .i64 600) n) fun o p=>
 Out.nor (ss 19 o fr) p
def agm:=rC 2 (.bool true)
def agn:=r1 3 3 fun a h=>aI .add .none a (.int .i64 1) h
def agl(fr:F)(h:Hp):Out:=
 gtO (ge 0 fr) fun a=>aA (aY 2 a h) fun b c=>
 aA (aI .gtr .none b (.int .i64 20) c) fun d i=>
 Out.nor (ss 2 d fr) i
def CW:F→Hp→Out:=(aB (aB Cj (aV (.tmp 11) Out.nor (Out.ex 0))) (aB (bP 1 (aB VD (aV (.tmp 19) (aB agm Out.ret) Out.nor))) agn))
def Tn:F→Hp→Out:=(aB agq (aB (aB agp (bP 0 (dI CW lf))) (aB agl Out.ret)))
def TI:Fun:=bG Tryz.prog (kp [0,2,3,11,19]) Tryz.f22.ntmps [.tmp 2] Tn
theorem atr(x0:V)(h:Hp):TI [x0] h=aT Tryz.prog [.tmp 2] (Tn (ss 0 x0 T.nil) h):=by kernel_rfl
theorem aD6:aJ Tryz.prog aN 22 TI:=prX aP [] [] bH Tryz.func22
def uO:=rC 4 (.bool false)
def uN:=r1 14 0 fun a h=>TI [a] h
def Pq(fr:F)(h:Hp):Out:=
 aA (TJ [] h) fun a b=>
 Out.nor (ss 4 a fr) b
def Ci:=r1 5 0 fun a h=>NY [a] h
def Ce:=r1 19 5 fun a h=>aI .eql (.ptr 16) a .bY h
def Cb:=r1 6 5 fun a h=>aia [a] h
def BZ(fr:F)(h:Hp):Out:=
 Out.nor (ss 8 (.str [82,69,65,68,45,87,82,73,84,69]) (ss 7 (.str [83,69,76,69,67,84]) fr)) h
def BX:=rM 22 1
def Po:=rC 7 (.str [69,88,65,77,73,78,69])
def Kr:=rC 8 (.str [82,69,65,68,45,79,78,76,89])
def zK(fr:F)(h:Hp):Out:=
 gtO (ge 0 fr) fun a=>aA (aY 2 a h) fun b c=>
 aA (zC [b] c) fun d i=>
 Out.nor (ss 9 d fr) i
def zJ(fr:F)(h:Hp):Out:=
 gtO (ge 6 fr) fun a=>gtO (ge 5 fr) fun b=>gtO (ge 7 fr) fun c=>aA (aI .add .none (.str [120,32]) c h) fun d i=>
 aA (aI .add .none d (.str [32,105,110,66,79,88,13,10]) i) fun j m=>
 aA (Nk [a,b,j] m) fun n o=>
 Out.nor (ss 10 n fr) o
def zI(fr:F)(h:Hp):Out:=
 gtO (ge 9 fr) fun a=>aA (aI .add .none (.str [42,32,70,76,65,71,83,32,40,92,65,110,115,119,101,114,101,100,32,92,70,108,97,103,103,101,100,32,92,68,101,108,101,116,101,100,32,92,83,101,101,110,32,92,68,114,97,102,116,41,13,10,42,32]) a h) fun b c=>
 aA (aI .add .none b (.str [32,69,88,73,83,84,83,13,10,42,32,48,32,82,69,67,69,78,84,13,10,42,32,79,75,32,91,85,73,68,86,65,76,73,68,73,84,89,32,49,93,13,10,42,32,79,75,32,91,85,73,68,78,69,88,84,32]) c) fun d i=>
 gtO (ge 0 fr) fun j=>aA (aY 2 j i) fun m n=>
 aA (aI .add .none m (.int .i64 1) n) fun o p=>
 aA (zC [o] p) fun q r=>
 aA (aI .add .none d q r) fun s t=>
 aA (aI .add .none s (.str [93,13,10,42,32,79,75,32,91,72,73,71,72,69,83,84,77,79,68,83,69,81,32]) t) fun u v=>
 aA (aY 2 j v) fun w x=>
 aA (aI .add .none w (.int .i64 1) x) fun y z=>
 aA (zC [y] z) fun aa ab=>
 aA (aI .add .none u aa ab) fun ac ad=>
 aA (aI .add .none ac (.str [93,13,10,120,32,79,75,32,91]) ad) fun ae af=>
 gtO (ge 8 fr) fun ag=>aA (aI .add .none ae ag af) fun ah ai=>
 aA (aI .add .none ah (.str [93,32,100,111,110,101,13,10]) ai) fun aj ak=>
 Out.nor (ss 11 aj fr) ak
def zH(fr:F)(h:Hp):Out:=
 gtO (ge 6 fr) fun a=>gtO (ge 5 fr) fun b=>gtO (ge 7 fr) fun c=>aA (aI .add .none (.str [121,32]) c h) fun d i=>
 aA (aI .add .none d (.str [32,110,111,110,101,13,10,122,32,67,72,69,67,75,13,10]) i) fun j m=>
 aA (Nk [a,b,j] m) fun n o=>
 Out.nor (ss 12 n fr) o
def zG(fr:F)(h:Hp):Out:=
 gtO (ge 10 fr) fun a=>gtO (ge 11 fr) fun b=>aA (aI .eql .none a b h) fun c d=>
 ifB c (gtO (ge 12 fr) fun i=>aA (aI .eql .none i (.str [121,32,78,79,32,101,114,114,111,114,32,54,13,10,122,32,78,79,32,115,116,97,116,101,13,10]) d) fun j m=>
 ifB j (aA (TJ [] m) fun n o=>
 Out.nor (ss 4 n fr) o) (Out.nor (ss 4 (.bool false) fr) m)) (Out.nor (ss 4 (.bool false) fr) d)
def nU:F→Hp→Out:=(aB uO (aB (aB uN (aV (.tmp 14) (aB Pq Out.ret) Out.nor)) (aB Ci (aB (aB Ce (aV (.tmp 19) zz Out.nor)) (aB Cb (aB BZ (aB (aB BX (aV (.tmp 22) (aB Po Kr) Out.nor)) (aB zK (aB zJ (aB zI (aB zH (aB zG Out.ret))))))))))))
def yD:Fun:=bG Tryz.prog (kp [0,1,4,5,6,7,8,9,10,11,12,14,19,22]) Tryz.f8.ntmps [.tmp 4] nU
theorem aeu(x0 x1:V)(h:Hp):yD [x0,x1] h=aT Tryz.prog [.tmp 4] (nU (ss 1 x1 (ss 0 x0 T.nil)) h):=by kernel_rfl
theorem al8:aJ Tryz.prog aN 8 yD:=prX aP [5] [] (aW aD6 (aW aD7 (aW azy (aW aNa (aW azx (aW ayl bH)))))) Tryz.func8
end Go.Proofs.Im
