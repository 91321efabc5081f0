/- Part of the claim: facts that its last text uses. No conditions. -/
import Derived.Test.YtfaolchpaooboaaGreatDoorProg
import Derived.KernelRfl
import Derived.Test.YtfaolchpaooboaaGreatDoorJbAO
import Derived.Test.YtfaolchpaooboaaGreatDoorJbAR
import Derived.Test.YtfaolchpaooboaaGreatDoorJbAE
import Derived.Test.YtfaolchpaooboaaGreatDoorJbAH
import Derived.Test.YtfaolchpaooboaaGreatDoorJbAJ
import Derived.Test.YtfaolchpaooboaaGreatDoorJbAK
import Derived.Test.YtfaolchpaooboaaGreatDoorJbAM
set_option linter.all false
noncomputable section
namespace Go.Proofs.Jm
open Go Go.Proofs Go.Vm
set_option maxRecDepth 100000
set_option maxHeartbeats 4000000
theorem aH:Tryz.prog.follows .mixedOrders=true:=by kernel_rfl
def ah:Nat:=6
def nK:Fun:=fun _ _=>.bad
theorem aHu:aj Tryz.prog ah 381 nK:=fun _ _ _ _ _ _ _ e=>by cases e
def alB:Nat→Bool:=fun t=>iy t [0,2,3,18,25,36]
def O5(fr:F)(h:Hp):Out:=
 Out.nor (T.set (some (.str [])) (Pos.of 2) fr) h
def O4(fr:F)(h:Hp):Out:=
 gtO (T.get fr (Pos.of 0)) fun v0=>ak (aO .lss .none v0 (.int .i64 0) h) fun v5 h1=>
 ifB v5 (Out.nor (T.set (some (.bool true)) (Pos.of 3) fr) h1) (ak (aO .gtr .none v0 (.int .i64 1114111) h1) fun v8 h4=>
 ifB v8 (Out.nor (T.set (some (.bool true)) (Pos.of 3) fr) h4) (ak (aO .geq .none v0 (.int .i64 55296) h4) fun v12 h8=>
 ifB v12 (ak (aO .leq .none v0 (.int .i64 57343) h8) fun v15 h11=>
 Out.nor (T.set (some v15) (Pos.of 3) fr) h11) (Out.nor (T.set (some (.bool false)) (Pos.of 3) fr) h8)))
def atq(fr:F)(h:Hp):Out:=
 Out.nor (T.set (some (.str [])) (Pos.of 2) fr) h
def O3(fr:F)(h:Hp):Out:=
 gtO (T.get fr (Pos.of 0)) fun v0=>ak (aO .lss .none v0 (.int .i64 128) h) fun v20 h1=>
 Out.nor (T.set (some v20) (Pos.of 18) fr) h1
def O1(fr:F)(h:Hp):Out:=
 gtO (T.get fr (Pos.of 0)) fun v0=>ak (dh .u8 v0 h) fun v22 h1=>
 ak (bK 5 [(.int .u8 0)] 1 [(0,1,v22)] h1) fun v23 h2=>
 ak (dR v23 h2) fun v24 h3=>
 Out.nor (T.set (some v24) (Pos.of 2) fr) h3
def atp(fr:F)(h:Hp):Out:=
 gtO (T.get fr (Pos.of 0)) fun v0=>ak (aO .lss .none v0 (.int .i64 2048) h) fun v27 h1=>
 Out.nor (T.set (some v27) (Pos.of 25) fr) h1
def ato(fr:F)(h:Hp):Out:=
 gtO (T.get fr (Pos.of 0)) fun v0=>ak (aO .shr .none v0 (.int .u64 6) h) fun v29 h1=>
 ak (aO .or .none (.int .i64 192) v29 h1) fun v30 h2=>
 ak (dh .u8 v30 h2) fun v31 h3=>
 ak (nK [v0] h3) fun v33 h5=>
 ak (bK 5 [(.int .u8 0),(.int .u8 0)] 2 [(0,1,v31),(1,1,v33)] h5) fun v34 h6=>
 ak (dR v34 h6) fun v35 h7=>
 Out.nor (T.set (some v35) (Pos.of 2) fr) h7
def atn(fr:F)(h:Hp):Out:=
 gtO (T.get fr (Pos.of 0)) fun v0=>ak (aO .lss .none v0 (.int .i64 65536) h) fun v38 h1=>
 Out.nor (T.set (some v38) (Pos.of 36) fr) h1
def atm(fr:F)(h:Hp):Out:=
 gtO (T.get fr (Pos.of 0)) fun v0=>ak (aO .shr .none v0 (.int .u64 12) h) fun v40 h1=>
 ak (aO .or .none (.int .i64 224) v40 h1) fun v41 h2=>
 ak (dh .u8 v41 h2) fun v42 h3=>
 ak (aO .shr .none v0 (.int .u64 6) h3) fun v44 h5=>
 ak (nK [v44] h5) fun v45 h6=>
 ak (nK [v0] h6) fun v47 h8=>
 ak (bK 5 [(.int .u8 0),(.int .u8 0),(.int .u8 0)] 3 [(0,1,v42),(1,1,v45),(2,1,v47)] h8) fun v48 h9=>
 ak (dR v48 h9) fun v49 h10=>
 Out.nor (T.set (some v49) (Pos.of 2) fr) h10
def atl(fr:F)(h:Hp):Out:=
 gtO (T.get fr (Pos.of 0)) fun v0=>ak (aO .shr .none v0 (.int .u64 18) h) fun v51 h1=>
 ak (aO .or .none (.int .i64 240) v51 h1) fun v52 h2=>
 ak (dh .u8 v52 h2) fun v53 h3=>
 ak (aO .shr .none v0 (.int .u64 12) h3) fun v55 h5=>
 ak (nK [v55] h5) fun v56 h6=>
 ak (aO .shr .none v0 (.int .u64 6) h6) fun v58 h8=>
 ak (nK [v58] h8) fun v59 h9=>
 ak (nK [v0] h9) fun v61 h11=>
 ak (bK 5 [(.int .u8 0),(.int .u8 0),(.int .u8 0),(.int .u8 0)] 4 [(0,1,v53),(1,1,v56),(2,1,v59),(3,1,v61)] h11) fun v62 h12=>
 ak (dR v62 h12) fun v63 h13=>
 Out.nor (T.set (some v63) (Pos.of 2) fr) h13
def SG:F→Hp→Out:=(aC O5 (aC (dU 0 (aC O4 (bn (.tmp 3) (aC atq Out.ret) (aC O3 (bn (.tmp 18) (aC O1 Out.ret) (aC atp (bn (.tmp 25) (aC ato Out.ret) (aC atn (bn (.tmp 36) (aC atm Out.ret) Out.nor))))))))) (aC atl Out.ret)))
def alS:FuncId→Option Fun:=fun f=>match Nat.beq f 381 with|true=>some nK|false=>none
def alh:aJ:=fun id=>none
def wz:Fun:=gI Tryz.prog ah alB alS alh lf Tryz.f312
theorem aHL:fE Tryz.prog ah Tryz.f312.ntmps alB alS alh lf (codeOf Tryz.f312)=SG:=by kernel_rfl
theorem ame(x0:V)(h:Hp):wz [x0] h=bD Tryz.prog [.tmp 2] (SG (T.set (some x0) (Pos.of 0) T.nil) h):=fK (by kernel_rfl) aHL (by kernel_rfl) h
theorem aHx:aj Tryz.prog ah 312 wz:=eG aH (ai aHu aA) Tryz.func312 (by kernel_rfl)
def alC:Nat→Bool:=fun t=>iy t [0,2,3,4,9,19,29]
def O8(fr:F)(h:Hp):Out:=
 Out.nor (T.set (some (.int .i64 0)) (Pos.of 3) (T.set (some (.int .i64 0)) (Pos.of 2) fr)) h
def O7(fr:F)(h:Hp):Out:=
 gtO (T.get fr (Pos.of 0)) fun v0=>ak (aO .lss .none v0 (.int .u8 128) h) fun v6 h1=>
 Out.nor (T.set (some v6) (Pos.of 4) fr) h1
def O6(fr:F)(h:Hp):Out:=
 gtO (T.get fr (Pos.of 0)) fun v0=>ak (dh .i64 v0 h) fun v8 h1=>
 Out.nor (T.set (some v8) (Pos.of 3) (T.set (some (.int .i64 1)) (Pos.of 2) fr)) h1
def aty(fr:F)(h:Hp):Out:=
 gtO (T.get fr (Pos.of 0)) fun v0=>ak (aO .geq .none v0 (.int .u8 192) h) fun v11 h1=>
 ifB v11 (ak (aO .lss .none v0 (.int .u8 224) h1) fun v14 h4=>
 Out.nor (T.set (some v14) (Pos.of 9) fr) h4) (Out.nor (T.set (some (.bool false)) (Pos.of 9) fr) h1)
def atx(fr:F)(h:Hp):Out:=
 gtO (T.get fr (Pos.of 0)) fun v0=>ak (aO .and .none v0 (.int .u8 31) h) fun v17 h1=>
 ak (dh .i64 v17 h1) fun v18 h2=>
 Out.nor (T.set (some v18) (Pos.of 3) (T.set (some (.int .i64 2)) (Pos.of 2) fr)) h2
def atw(fr:F)(h:Hp):Out:=
 gtO (T.get fr (Pos.of 0)) fun v0=>ak (aO .geq .none v0 (.int .u8 224) h) fun v21 h1=>
 ifB v21 (ak (aO .lss .none v0 (.int .u8 240) h1) fun v24 h4=>
 Out.nor (T.set (some v24) (Pos.of 19) fr) h4) (Out.nor (T.set (some (.bool false)) (Pos.of 19) fr) h1)
def atv(fr:F)(h:Hp):Out:=
 gtO (T.get fr (Pos.of 0)) fun v0=>ak (aO .and .none v0 (.int .u8 15) h) fun v27 h1=>
 ak (dh .i64 v27 h1) fun v28 h2=>
 Out.nor (T.set (some v28) (Pos.of 3) (T.set (some (.int .i64 3)) (Pos.of 2) fr)) h2
def atu(fr:F)(h:Hp):Out:=
 gtO (T.get fr (Pos.of 0)) fun v0=>ak (aO .geq .none v0 (.int .u8 240) h) fun v31 h1=>
 ifB v31 (ak (aO .lss .none v0 (.int .u8 248) h1) fun v34 h4=>
 Out.nor (T.set (some v34) (Pos.of 29) fr) h4) (Out.nor (T.set (some (.bool false)) (Pos.of 29) fr) h1)
def att(fr:F)(h:Hp):Out:=
 gtO (T.get fr (Pos.of 0)) fun v0=>ak (aO .and .none v0 (.int .u8 7) h) fun v37 h1=>
 ak (dh .i64 v37 h1) fun v38 h2=>
 Out.nor (T.set (some v38) (Pos.of 3) (T.set (some (.int .i64 4)) (Pos.of 2) fr)) h2
def atr(fr:F)(h:Hp):Out:=
 Out.nor (T.set (some (.int .i64 0)) (Pos.of 3) (T.set (some (.int .i64 0)) (Pos.of 2) fr)) h
def SH:F→Hp→Out:=(aC O8 (aC (dU 0 (aC O7 (bn (.tmp 4) (aC O6 Out.ret) (aC aty (bn (.tmp 9) (aC atx Out.ret) (aC atw (bn (.tmp 19) (aC atv Out.ret) (aC atu (bn (.tmp 29) (aC att Out.ret) Out.nor))))))))) (aC atr Out.ret)))
def alT:FuncId→Option Fun:=fun f=>none
def ali:aJ:=fun id=>none
def wB:Fun:=gI Tryz.prog ah alC alT ali lf Tryz.f311
theorem aHM:fE Tryz.prog ah Tryz.f311.ntmps alC alT ali lf (codeOf Tryz.f311)=SH:=by kernel_rfl
theorem amf(x0:V)(h:Hp):wB [x0] h=bD Tryz.prog [.tmp 2,.tmp 3] (SH (T.set (some x0) (Pos.of 0) T.nil) h):=fK (by kernel_rfl) aHM (by kernel_rfl) h
theorem aHy:aj Tryz.prog ah 311 wB:=eG aH aA Tryz.func311 (by kernel_rfl)
def alJ:Nat→Bool:=fun t=>iy t [0,1,4,5,6,7,15,33,37,58]
def PX(fr:F)(h:Hp):Out:=
 Out.nor (T.set (some (.int .i64 0)) (Pos.of 5) (T.set (some (.int .i64 0)) (Pos.of 4) fr)) h
def PW(fr:F)(h:Hp):Out:=
 gtO (T.get fr (Pos.of 1)) fun v1=>ak (aO .lss .none v1 (.int .i64 0) h) fun v9 h1=>
 ifB v9 (Out.nor (T.set (some (.bool true)) (Pos.of 15) fr) h1) (gtO (T.get fr (Pos.of 0)) fun v0=>ak (fH 1 v0 h1) fun v13 h5=>
 ak (aO .geq .none v1 v13 h5) fun v14 h6=>
 Out.nor (T.set (some v14) (Pos.of 15) fr) h6)
def atL(fr:F)(h:Hp):Out:=
 gtO (T.get fr (Pos.of 1)) fun v1=>Out.nor (T.set (some v1) (Pos.of 5) (T.set (some (.int .i64 (-1))) (Pos.of 4) fr)) h
def PV(fr:F)(h:Hp):Out:=
 gtO (T.get fr (Pos.of 0)) fun v0=>gtO (T.get fr (Pos.of 1)) fun v1=>ak (bU v0 v1 h) fun v20 h2=>
 ak (wB [v20] h2) fun v21 h3=>
 ak (bM 0 v21 h3) fun v22 h5=>
 ak (bM 1 v21 h5) fun v23 h6=>
 Out.nor (T.set (some v23) (Pos.of 4) (T.set (some v22) (Pos.of 6) fr)) h6
def PU(fr:F)(h:Hp):Out:=
 gtO (T.get fr (Pos.of 6)) fun v6=>ak (aO .eql .none v6 (.int .i64 0) h) fun v25 h1=>
 ifB v25 (Out.nor (T.set (some (.bool true)) (Pos.of 33) fr) h1) (gtO (T.get fr (Pos.of 0)) fun v0=>ak (fH 1 v0 h1) fun v29 h5=>
 gtO (T.get fr (Pos.of 1)) fun v1=>ak (aO .sub .none v29 v1 h5) fun v31 h7=>
 ak (aO .gtr .none v6 v31 h7) fun v32 h8=>
 Out.nor (T.set (some v32) (Pos.of 33) fr) h8)
def atK(fr:F)(h:Hp):Out:=
 gtO (T.get fr (Pos.of 1)) fun v1=>Out.nor (T.set (some v1) (Pos.of 5) (T.set (some (.int .i64 (-1))) (Pos.of 4) fr)) h
def PS(fr:F)(h:Hp):Out:=
 Out.nor (T.set (some (.int .i64 1)) (Pos.of 7) fr) h
def PO(fr:F)(h:Hp):Out:=
 gtO (T.get fr (Pos.of 7)) fun v7=>gtO (T.get fr (Pos.of 6)) fun v6=>ak (aO .lss .none v7 v6 h) fun v37 h2=>
 Out.nor (T.set (some v37) (Pos.of 37) fr) h2
def atI(fr:F)(h:Hp):Out:=
 gtO (T.get fr (Pos.of 4)) fun v4=>ak (aO .shl .none v4 (.int .u64 6) h) fun v41 h1=>
 gtO (T.get fr (Pos.of 0)) fun v0=>gtO (T.get fr (Pos.of 1)) fun v1=>gtO (T.get fr (Pos.of 7)) fun v7=>ak (aO .add .none v1 v7 h1) fun v45 h5=>
 ak (bU v0 v45 h5) fun v46 h6=>
 ak (aO .and .none v46 (.int .u8 63) h6) fun v47 h7=>
 ak (dh .i64 v47 h7) fun v48 h8=>
 ak (aO .or .none v41 v48 h8) fun v49 h9=>
 Out.nor (T.set (some v49) (Pos.of 4) fr) h9
def atJ(fr:F)(h:Hp):Out:=
 gtO (T.get fr (Pos.of 7)) fun v7=>ak (aO .add .none v7 (.int .i64 1) h) fun v39 h1=>
 Out.nor (T.set (some v39) (Pos.of 7) fr) h1
def Gn(fr:F)(h:Hp):Out:=
 gtO (T.get fr (Pos.of 4)) fun w0_4=>ak (wz [w0_4] (aF 0 h)) fun v51 h1=>
 gtO (T.get fr (Pos.of 0)) fun w2_0=>gtO (T.get fr (Pos.of 1)) fun w3_1=>gtO (T.get fr (Pos.of 1)) fun w4_1=>gtO (T.get fr (Pos.of 6)) fun w5_6=>ak (aO .add .none w4_1 w5_6 h1) fun v56 _=>
 ak (eF w2_0 (some w3_1) (some v56) h1) fun v57 _=>
 ak (aO .neq .none v51 v57 h1) fun v58 _=>
 Out.nor (T.set (some v58) (Pos.of 58) fr) h1
def akN(fr:F)(h:Hp):Out:=
 gtO (T.get fr (Pos.of 1)) fun v1=>Out.nor (T.set (some v1) (Pos.of 5) (T.set (some (.int .i64 (-1))) (Pos.of 4) fr)) h
def Gm(fr:F)(h:Hp):Out:=
 gtO (T.get fr (Pos.of 4)) fun v4=>gtO (T.get fr (Pos.of 1)) fun v1=>gtO (T.get fr (Pos.of 6)) fun v6=>ak (aO .add .none v1 v6 h) fun v63 h3=>
 Out.nor (T.set (some v63) (Pos.of 5) (T.set (some v4) (Pos.of 4) fr)) h3
def Ti:F→Hp→Out:=(aC (aC PO (bn (.tmp 37) Out.nor (Out.ex 0))) (aC (dU 1 atI) atJ))
def SS:F→Hp→Out:=(aC PX (aC (aC PW (bn (.tmp 15) (aC atL Out.ret) Out.nor)) (aC PV (aC (aC PU (bn (.tmp 33) (aC atK Out.ret) Out.nor)) (aC (aC PS (dU 0 (eU Ti lf))) (aC (aC Gn (bn (.tmp 58) (aC akN Out.ret) Out.nor)) (aC Gm Out.ret)))))))
def al0:FuncId→Option Fun:=fun f=>match Nat.beq f 311 with|true=>some wB|false=>match Nat.beq f 312 with|true=>some wz|false=>none
def alq:aJ:=fun id=>match Nat.beq id 10 with|true=>some ([0,1,0,0,0,0,48,124,255],[(0,.pure),(1,.heavy),(2,.pure),(3,.pure),(4,.pure),(5,.pure),(6,.pure),(7,.pure),(8,.pure)])|false=>none
def pG:Fun:=gI Tryz.prog ah alJ al0 alq lf Tryz.f224
theorem aHT:fE Tryz.prog ah Tryz.f224.ntmps alJ al0 alq lf (codeOf Tryz.f224)=SS:=by kernel_rfl
theorem aml(x0 x1:V)(h:Hp):pG [x0,x1] h=bD Tryz.prog [.tmp 4,.tmp 5] (SS (T.set (some x1) (Pos.of 1) (T.set (some x0) (Pos.of 0) T.nil)) h):=fK (by kernel_rfl) aHT (by kernel_rfl) h
theorem amb:aj Tryz.prog ah 224 pG:=eG aH (ai aHy (ai aHx aA)) Tryz.func224 (by kernel_rfl)
def alQ:Nat→Bool:=fun t=>iy t [0,2,3,4,5,9,17]
def Sm(fr:F)(h:Hp):Out:=
 Out.nor (T.set (some (.bool false)) (Pos.of 2) fr) h
def Sj(fr:F)(h:Hp):Out:=
 Out.nor (T.set (some (.int .i64 0)) (Pos.of 3) fr) h
def y8(fr:F)(h:Hp):Out:=
 gtO (T.get fr (Pos.of 3)) fun v3=>gtO (T.get fr (Pos.of 0)) fun v0=>ak (fH 1 v0 h) fun v8 h2=>
 ak (aO .lss .none v3 v8 h2) fun v9 h3=>
 Out.nor (T.set (some v9) (Pos.of 9) fr) h3
def Si(fr:F)(h:Hp):Out:=
 gtO (T.get fr (Pos.of 0)) fun v0=>gtO (T.get fr (Pos.of 3)) fun v3=>ak (pG [v0,v3] h) fun v13 h2=>
 ak (bM 0 v13 h2) fun v14 h4=>
 ak (bM 1 v13 h4) fun v15 h5=>
 Out.nor (T.set (some v15) (Pos.of 5) (T.set (some v14) (Pos.of 4) fr)) h5
def RZ(fr:F)(h:Hp):Out:=
 gtO (T.get fr (Pos.of 4)) fun v4=>ak (aO .lss .none v4 (.int .i64 0) h) fun v17 h1=>
 Out.nor (T.set (some v17) (Pos.of 17) fr) h1
def atY(fr:F)(h:Hp):Out:=
 Out.nor (T.set (some (.bool false)) (Pos.of 2) fr) h
def RY(fr:F)(h:Hp):Out:=
 gtO (T.get fr (Pos.of 5)) fun v5=>Out.nor (T.set (some v5) (Pos.of 3) fr) h
def RX(fr:F)(h:Hp):Out:=
 Out.nor (T.set (some (.bool true)) (Pos.of 2) fr) h
def zq:F→Hp→Out:=(aC (aC y8 (bn (.tmp 9) Out.nor (Out.ex 0))) (dU 1 (aC Si (aC (aC RZ (bn (.tmp 17) (aC atY Out.ret) Out.nor)) RY))))
def Tc:F→Hp→Out:=(aC Sm (aC Sj (aC (dU 0 (eU zq lf)) (aC RX Out.ret))))
def al7:FuncId→Option Fun:=fun f=>match Nat.beq f 224 with|true=>some pG|false=>none
def alz:aJ:=fun id=>none
def pR:Fun:=gI Tryz.prog ah alQ al7 alz lf Tryz.f151
theorem aH0:fE Tryz.prog ah Tryz.f151.ntmps alQ al7 alz lf (codeOf Tryz.f151)=Tc:=by kernel_rfl
theorem amr(x0:V)(h:Hp):pR [x0] h=bD Tryz.prog [.tmp 2] (Tc (T.set (some x0) (Pos.of 0) T.nil) h):=fK (by kernel_rfl) aH0 (by kernel_rfl) h
theorem aHJ:aj Tryz.prog ah 151 pR:=eG aH (ai amb aA) Tryz.func151 (by kernel_rfl)
def alI:Nat→Bool:=fun t=>iy t [0,2,3,18,25,38]
def PN(fr:F)(h:Hp):Out:=
 Out.nor (T.set (some (.str [])) (Pos.of 2) fr) h
def PL(fr:F)(h:Hp):Out:=
 gtO (T.get fr (Pos.of 0)) fun v0=>ak (aO .lss .none v0 (.int .i64 0) h) fun v5 h1=>
 ifB v5 (Out.nor (T.set (some (.bool true)) (Pos.of 3) fr) h1) (ak (aO .gtr .none v0 (.int .i64 1114111) h1) fun v8 h4=>
 ifB v8 (Out.nor (T.set (some (.bool true)) (Pos.of 3) fr) h4) (ak (aO .geq .none v0 (.int .i64 55296) h4) fun v12 h8=>
 ifB v12 (ak (aO .leq .none v0 (.int .i64 57343) h8) fun v15 h11=>
 Out.nor (T.set (some v15) (Pos.of 3) fr) h11) (Out.nor (T.set (some (.bool false)) (Pos.of 3) fr) h8)))
def atH(fr:F)(h:Hp):Out:=
 Out.nor (T.set (some (.str [])) (Pos.of 2) fr) h
def PK(fr:F)(h:Hp):Out:=
 gtO (T.get fr (Pos.of 0)) fun v0=>ak (aO .lss .none v0 (.int .i64 128) h) fun v20 h1=>
 Out.nor (T.set (some v20) (Pos.of 18) fr) h1
def PI(fr:F)(h:Hp):Out:=
 gtO (T.get fr (Pos.of 0)) fun v0=>ak (dh .u8 v0 h) fun v22 h1=>
 ak (bK 5 [(.int .u8 0)] 1 [(0,1,v22)] h1) fun v23 h2=>
 ak (dR v23 h2) fun v24 h3=>
 Out.nor (T.set (some v24) (Pos.of 2) fr) h3
def atG(fr:F)(h:Hp):Out:=
 gtO (T.get fr (Pos.of 0)) fun v0=>ak (aO .lss .none v0 (.int .i64 2048) h) fun v27 h1=>
 Out.nor (T.set (some v27) (Pos.of 25) fr) h1
def atF(fr:F)(h:Hp):Out:=
 gtO (T.get fr (Pos.of 0)) fun v0=>ak (aO .shr .none v0 (.int .u64 6) h) fun v29 h1=>
 ak (aO .or .none (.int .i64 192) v29 h1) fun v30 h2=>
 ak (dh .u8 v30 h2) fun v31 h3=>
 ak (aO .and .none v0 (.int .i64 63) h3) fun v33 h5=>
 ak (aO .or .none (.int .i64 128) v33 h5) fun v34 h6=>
 ak (dh .u8 v34 h6) fun v35 h7=>
 ak (bK 5 [(.int .u8 0),(.int .u8 0)] 2 [(0,1,v31),(1,1,v35)] h7) fun v36 h8=>
 ak (dR v36 h8) fun v37 h9=>
 Out.nor (T.set (some v37) (Pos.of 2) fr) h9
def atE(fr:F)(h:Hp):Out:=
 gtO (T.get fr (Pos.of 0)) fun v0=>ak (aO .lss .none v0 (.int .i64 65536) h) fun v40 h1=>
 Out.nor (T.set (some v40) (Pos.of 38) fr) h1
def atD(fr:F)(h:Hp):Out:=
 gtO (T.get fr (Pos.of 0)) fun v0=>ak (aO .shr .none v0 (.int .u64 12) h) fun v42 h1=>
 ak (aO .or .none (.int .i64 224) v42 h1) fun v43 h2=>
 ak (dh .u8 v43 h2) fun v44 h3=>
 ak (aO .shr .none v0 (.int .u64 6) h3) fun v46 h5=>
 ak (aO .and .none v46 (.int .i64 63) h5) fun v47 h6=>
 ak (aO .or .none (.int .i64 128) v47 h6) fun v48 h7=>
 ak (dh .u8 v48 h7) fun v49 h8=>
 ak (aO .and .none v0 (.int .i64 63) h8) fun v51 h10=>
 ak (aO .or .none (.int .i64 128) v51 h10) fun v52 h11=>
 ak (dh .u8 v52 h11) fun v53 h12=>
 ak (bK 5 [(.int .u8 0),(.int .u8 0),(.int .u8 0)] 3 [(0,1,v44),(1,1,v49),(2,1,v53)] h12) fun v54 h13=>
 ak (dR v54 h13) fun v55 h14=>
 Out.nor (T.set (some v55) (Pos.of 2) fr) h14
def atC(fr:F)(h:Hp):Out:=
 gtO (T.get fr (Pos.of 0)) fun v0=>ak (aO .shr .none v0 (.int .u64 18) h) fun v57 h1=>
 ak (aO .or .none (.int .i64 240) v57 h1) fun v58 h2=>
 ak (dh .u8 v58 h2) fun v59 h3=>
 ak (aO .shr .none v0 (.int .u64 12) h3) fun v61 h5=>
 ak (aO .and .none v61 (.int .i64 63) h5) fun v62 h6=>
 ak (aO .or .none (.int .i64 128) v62 h6) fun v63 h7=>
 ak (dh .u8 v63 h7) fun v64 h8=>
 ak (aO .shr .none v0 (.int .u64 6) h8) fun v66 h10=>
 ak (aO .and .none v66 (.int .i64 63) h10) fun v67 h11=>
 ak (aO .or .none (.int .i64 128) v67 h11) fun v68 h12=>
 ak (dh .u8 v68 h12) fun v69 h13=>
 ak (aO .and .none v0 (.int .i64 63) h13) fun v71 h15=>
 ak (aO .or .none (.int .i64 128) v71 h15) fun v72 h16=>
 ak (dh .u8 v72 h16) fun v73 h17=>
 ak (bK 5 [(.int .u8 0),(.int .u8 0),(.int .u8 0),(.int .u8 0)] 4 [(0,1,v59),(1,1,v64),(2,1,v69),(3,1,v73)] h17) fun v74 h18=>
 ak (dR v74 h18) fun v75 h19=>
 Out.nor (T.set (some v75) (Pos.of 2) fr) h19
def SQ:F→Hp→Out:=(aC PN (aC (dU 0 (aC PL (bn (.tmp 3) (aC atH Out.ret) (aC PK (bn (.tmp 18) (aC PI Out.ret) (aC atG (bn (.tmp 25) (aC atF Out.ret) (aC atE (bn (.tmp 38) (aC atD Out.ret) Out.nor))))))))) (aC atC Out.ret)))
def alZ:FuncId→Option Fun:=fun f=>none
def alp:aJ:=fun id=>none
def wE:Fun:=gI Tryz.prog ah alI alZ alp lf Tryz.f245
theorem aHS:fE Tryz.prog ah Tryz.f245.ntmps alI alZ alp lf (codeOf Tryz.f245)=SQ:=by kernel_rfl
theorem amk(x0:V)(h:Hp):wE [x0] h=bD Tryz.prog [.tmp 2] (SQ (T.set (some x0) (Pos.of 0) T.nil) h):=fK (by kernel_rfl) aHS (by kernel_rfl) h
theorem aHB:aj Tryz.prog ah 245 wE:=eG aH aA Tryz.func245 (by kernel_rfl)
def alN:Nat→Bool:=fun t=>iy t [0,1,4,5,6,7,8,9,17,24,29,34,44,48,69]
def RH(fr:F)(h:Hp):Out:=
 Out.nor (T.set (some (.int .i64 0)) (Pos.of 5) (T.set (some (.int .i64 0)) (Pos.of 4) fr)) h
def RG(fr:F)(h:Hp):Out:=
 gtO (T.get fr (Pos.of 1)) fun v1=>ak (aO .lss .none v1 (.int .i64 0) h) fun v11 h1=>
 ifB v11 (Out.nor (T.set (some (.bool true)) (Pos.of 17) fr) h1) (gtO (T.get fr (Pos.of 0)) fun v0=>ak (fH 1 v0 h1) fun v15 h5=>
 ak (aO .geq .none v1 v15 h5) fun v16 h6=>
 Out.nor (T.set (some v16) (Pos.of 17) fr) h6)
def atW(fr:F)(h:Hp):Out:=
 gtO (T.get fr (Pos.of 1)) fun v1=>Out.nor (T.set (some v1) (Pos.of 5) (T.set (some (.int .i64 (-1))) (Pos.of 4) fr)) h
def RF(fr:F)(h:Hp):Out:=
 gtO (T.get fr (Pos.of 0)) fun v0=>gtO (T.get fr (Pos.of 1)) fun v1=>ak (bU v0 v1 h) fun v21 h2=>
 ak (dh .i64 v21 h2) fun v22 h3=>
 Out.nor (T.set (some v22) (Pos.of 6) fr) h3
def RD(fr:F)(h:Hp):Out:=
 gtO (T.get fr (Pos.of 6)) fun v6=>Out.nor (T.set (some v6) (Pos.of 8) (T.set (some (.int .i64 1)) (Pos.of 7) fr)) h
def Rz(fr:F)(h:Hp):Out:=
 gtO (T.get fr (Pos.of 6)) fun v6=>ak (aO .geq .none v6 (.int .i64 240) h) fun v26 h1=>
 Out.nor (T.set (some v26) (Pos.of 24) fr) h1
def atV(fr:F)(h:Hp):Out:=
 Out.nor (T.set (some (.int .i64 4)) (Pos.of 7) fr) h
def atU(fr:F)(h:Hp):Out:=
 gtO (T.get fr (Pos.of 6)) fun v6=>ak (aO .and .none v6 (.int .i64 7) h) fun v28 h1=>
 Out.nor (T.set (some v28) (Pos.of 8) fr) h1
def Ry(fr:F)(h:Hp):Out:=
 gtO (T.get fr (Pos.of 6)) fun v6=>ak (aO .geq .none v6 (.int .i64 224) h) fun v31 h1=>
 Out.nor (T.set (some v31) (Pos.of 29) fr) h1
def atT(fr:F)(h:Hp):Out:=
 Out.nor (T.set (some (.int .i64 3)) (Pos.of 7) fr) h
def alc(fr:F)(h:Hp):Out:=
 gtO (T.get fr (Pos.of 6)) fun v6=>ak (aO .and .none v6 (.int .i64 15) h) fun v33 h1=>
 Out.nor (T.set (some v33) (Pos.of 8) fr) h1
def GR(fr:F)(h:Hp):Out:=
 gtO (T.get fr (Pos.of 6)) fun v6=>ak (aO .geq .none v6 (.int .i64 192) h) fun v36 h1=>
 Out.nor (T.set (some v36) (Pos.of 34) fr) h1
def alb(fr:F)(h:Hp):Out:=
 Out.nor (T.set (some (.int .i64 2)) (Pos.of 7) fr) h
def ala(fr:F)(h:Hp):Out:=
 gtO (T.get fr (Pos.of 6)) fun v6=>ak (aO .and .none v6 (.int .i64 31) h) fun v38 h1=>
 Out.nor (T.set (some v38) (Pos.of 8) fr) h1
def GN(fr:F)(h:Hp):Out:=
 gtO (T.get fr (Pos.of 7)) fun v7=>gtO (T.get fr (Pos.of 0)) fun v0=>ak (fH 1 v0 h) fun v41 h2=>
 gtO (T.get fr (Pos.of 1)) fun v1=>ak (aO .sub .none v41 v1 h2) fun v43 h4=>
 ak (aO .gtr .none v7 v43 h4) fun v44 h5=>
 Out.nor (T.set (some v44) (Pos.of 44) fr) h5
def ak9(fr:F)(h:Hp):Out:=
 gtO (T.get fr (Pos.of 1)) fun v1=>Out.nor (T.set (some v1) (Pos.of 5) (T.set (some (.int .i64 (-1))) (Pos.of 4) fr)) h
def GL(fr:F)(h:Hp):Out:=
 Out.nor (T.set (some (.int .i64 1)) (Pos.of 9) fr) h
def GK(fr:F)(h:Hp):Out:=
 gtO (T.get fr (Pos.of 9)) fun v9=>gtO (T.get fr (Pos.of 7)) fun v7=>ak (aO .lss .none v9 v7 h) fun v48 h2=>
 Out.nor (T.set (some v48) (Pos.of 48) fr) h2
def ak7(fr:F)(h:Hp):Out:=
 gtO (T.get fr (Pos.of 8)) fun v8=>ak (aO .shl .none v8 (.int .u64 6) h) fun v52 h1=>
 gtO (T.get fr (Pos.of 0)) fun v0=>gtO (T.get fr (Pos.of 1)) fun v1=>gtO (T.get fr (Pos.of 9)) fun v9=>ak (aO .add .none v1 v9 h1) fun v56 h5=>
 ak (bU v0 v56 h5) fun v57 h6=>
 ak (dh .i64 v57 h6) fun v58 h7=>
 ak (aO .and .none v58 (.int .i64 63) h7) fun v59 h8=>
 ak (aO .or .none v52 v59 h8) fun v60 h9=>
 Out.nor (T.set (some v60) (Pos.of 8) fr) h9
def ak8(fr:F)(h:Hp):Out:=
 gtO (T.get fr (Pos.of 9)) fun v9=>ak (aO .add .none v9 (.int .i64 1) h) fun v50 h1=>
 Out.nor (T.set (some v50) (Pos.of 9) fr) h1
def GI(fr:F)(h:Hp):Out:=
 gtO (T.get fr (Pos.of 8)) fun w0_8=>ak (wE [w0_8] (aF 0 h)) fun v62 h1=>
 gtO (T.get fr (Pos.of 0)) fun w2_0=>gtO (T.get fr (Pos.of 1)) fun w3_1=>gtO (T.get fr (Pos.of 1)) fun w4_1=>gtO (T.get fr (Pos.of 7)) fun w5_7=>ak (aO .add .none w4_1 w5_7 h1) fun v67 _=>
 ak (eF w2_0 (some w3_1) (some v67) h1) fun v68 _=>
 ak (aO .neq .none v62 v68 h1) fun v69 _=>
 Out.nor (T.set (some v69) (Pos.of 69) fr) h1
def ak6(fr:F)(h:Hp):Out:=
 gtO (T.get fr (Pos.of 1)) fun v1=>Out.nor (T.set (some v1) (Pos.of 5) (T.set (some (.int .i64 (-1))) (Pos.of 4) fr)) h
def GH(fr:F)(h:Hp):Out:=
 gtO (T.get fr (Pos.of 8)) fun v8=>gtO (T.get fr (Pos.of 1)) fun v1=>gtO (T.get fr (Pos.of 7)) fun v7=>ak (aO .add .none v1 v7 h) fun v74 h3=>
 Out.nor (T.set (some v74) (Pos.of 5) (T.set (some v8) (Pos.of 4) fr)) h3
def G5:F→Hp→Out:=(aC (aC GK (bn (.tmp 48) Out.nor (Out.ex 1))) (aC (dU 2 ak7) ak8))
def SY:F→Hp→Out:=(aC RH (aC (aC RG (bn (.tmp 17) (aC atW Out.ret) Out.nor)) (aC RF (aC RD (aC (dU 0 (aC Rz (bn (.tmp 24) (aC atV atU) (aC Ry (bn (.tmp 29) (aC atT alc) (aC GR (bn (.tmp 34) (aC alb ala) Out.nor))))))) (aC (aC GN (bn (.tmp 44) (aC ak9 Out.ret) Out.nor)) (aC (aC GL (dU 1 (eU G5 lf))) (aC (aC GI (bn (.tmp 69) (aC ak6 Out.ret) Out.nor)) (aC GH Out.ret)))))))))
def al4:FuncId→Option Fun:=fun f=>match Nat.beq f 245 with|true=>some wE|false=>none
def alv:aJ:=fun id=>match Nat.beq id 20 with|true=>some ([0,1,0,0,0,0,48,124,255],[(0,.pure),(1,.heavy),(2,.pure),(3,.pure),(4,.pure),(5,.pure),(6,.pure),(7,.pure),(8,.pure)])|false=>none
def pJ:Fun:=gI Tryz.prog ah alN al4 alv lf Tryz.f188
theorem aHX:fE Tryz.prog ah Tryz.f188.ntmps alN al4 alv lf (codeOf Tryz.f188)=SY:=by kernel_rfl
theorem amo(x0 x1:V)(h:Hp):pJ [x0,x1] h=bD Tryz.prog [.tmp 4,.tmp 5] (SY (T.set (some x1) (Pos.of 1) (T.set (some x0) (Pos.of 0) T.nil)) h):=fK (by kernel_rfl) aHX (by kernel_rfl) h
theorem amd:aj Tryz.prog ah 188 pJ:=eG aH (ai aHB aA) Tryz.func188 (by kernel_rfl)
def alP:Nat→Bool:=fun t=>iy t [0,2,3,4,5,9,17]
def RV(fr:F)(h:Hp):Out:=
 Out.nor (T.set (some (.bool false)) (Pos.of 2) fr) h
def RU(fr:F)(h:Hp):Out:=
 Out.nor (T.set (some (.int .i64 0)) (Pos.of 3) fr) h
def yZ(fr:F)(h:Hp):Out:=
 gtO (T.get fr (Pos.of 3)) fun v3=>gtO (T.get fr (Pos.of 0)) fun v0=>ak (fH 1 v0 h) fun v8 h2=>
 ak (aO .lss .none v3 v8 h2) fun v9 h3=>
 Out.nor (T.set (some v9) (Pos.of 9) fr) h3
def RS(fr:F)(h:Hp):Out:=
 gtO (T.get fr (Pos.of 0)) fun v0=>gtO (T.get fr (Pos.of 3)) fun v3=>ak (pJ [v0,v3] h) fun v13 h2=>
 ak (bM 0 v13 h2) fun v14 h4=>
 ak (bM 1 v13 h4) fun v15 h5=>
 Out.nor (T.set (some v15) (Pos.of 5) (T.set (some v14) (Pos.of 4) fr)) h5
def RQ(fr:F)(h:Hp):Out:=
 gtO (T.get fr (Pos.of 4)) fun v4=>ak (aO .lss .none v4 (.int .i64 0) h) fun v17 h1=>
 Out.nor (T.set (some v17) (Pos.of 17) fr) h1
def atX(fr:F)(h:Hp):Out:=
 Out.nor (T.set (some (.bool false)) (Pos.of 2) fr) h
def RP(fr:F)(h:Hp):Out:=
 gtO (T.get fr (Pos.of 5)) fun v5=>Out.nor (T.set (some v5) (Pos.of 3) fr) h
def RN(fr:F)(h:Hp):Out:=
 Out.nor (T.set (some (.bool true)) (Pos.of 2) fr) h
def zo:F→Hp→Out:=(aC (aC yZ (bn (.tmp 9) Out.nor (Out.ex 0))) (dU 1 (aC RS (aC (aC RQ (bn (.tmp 17) (aC atX Out.ret) Out.nor)) RP))))
def S9:F→Hp→Out:=(aC RV (aC (aC RU (dU 0 (eU zo lf))) (aC RN Out.ret)))
def al6:FuncId→Option Fun:=fun f=>match Nat.beq f 188 with|true=>some pJ|false=>none
def aly:aJ:=fun id=>none
def pK:Fun:=gI Tryz.prog ah alP al6 aly lf Tryz.f154
theorem aHZ:fE Tryz.prog ah Tryz.f154.ntmps alP al6 aly lf (codeOf Tryz.f154)=S9:=by kernel_rfl
theorem amq(x0:V)(h:Hp):pK [x0] h=bD Tryz.prog [.tmp 2] (S9 (T.set (some x0) (Pos.of 0) T.nil) h):=fK (by kernel_rfl) aHZ (by kernel_rfl) h
theorem aHI:aj Tryz.prog ah 154 pK:=eG aH (ai amd aA) Tryz.func154 (by kernel_rfl)
def rM:Fun:=fun _ _=>.bad
theorem amc:aj Tryz.prog ah 192 rM:=fun _ _ _ _ _ _ _ e=>by cases e
def Tq:Fun:=fun _ _=>.bad
theorem aHw:aj Tryz.prog ah 343 Tq:=fun _ _ _ _ _ _ _ e=>by cases e
def alH:Nat→Bool:=fun t=>iy t [0,1,4,37]
def uh(fr:F)(h:Hp):Out:=
 Out.nor (T.set (some (.bool false)) (Pos.of 4) fr) h
def ug(fr:F)(h:Hp):Out:=
 gtO (T.get fr (Pos.of 0)) fun w0_0=>ak (aP w0_0 (aF 0 h)) fun v6 _=>
 ak (aN 0 v6 (aF 0 h)) fun v7 _=>
 ak (aW v7 (aF 0 h)) fun v8 _=>
 ak (fH 1 v8 (aF 0 h)) fun v9 _=>
 gtO (T.get fr (Pos.of 0)) fun w5_0=>ak (aP w5_0 (aF 0 h)) fun v11 _=>
 ak (aN 1 v11 (aF 0 h)) fun v12 _=>
 ak (aW v12 (aF 0 h)) fun v13 _=>
 ak (aO .sub .none v9 v13 (aF 0 h)) fun v14 _=>
 gtO (T.get fr (Pos.of 1)) fun w10_1=>ak (fH 1 w10_1 (aF 0 h)) fun v16 _=>
 ak (aO .lss .none v14 v16 (aF 0 h)) fun v17 _=>
 ifB v17 (Out.nor (T.set (some (.bool true)) (Pos.of 37) fr) (aF 0 h)) (gtO (T.get fr (Pos.of 0)) fun w14_0=>ak (aP w14_0 (aF 0 h)) fun v20 _=>
 ak (aN 0 v20 (aF 0 h)) fun v21 _=>
 ak (aW v21 (aF 0 h)) fun v22 _=>
 gtO (T.get fr (Pos.of 0)) fun w18_0=>ak (aP w18_0 (aF 0 h)) fun v24 _=>
 ak (aN 1 v24 (aF 0 h)) fun v25 _=>
 ak (aW v25 (aF 0 h)) fun v26 _=>
 gtO (T.get fr (Pos.of 0)) fun w22_0=>ak (aP w22_0 (aF 0 h)) fun v28 _=>
 ak (aN 1 v28 (aF 0 h)) fun v29 _=>
 ak (aW v29 (aF 0 h)) fun v30 _=>
 gtO (T.get fr (Pos.of 1)) fun w26_1=>ak (fH 1 w26_1 (aF 0 h)) fun v32 _=>
 ak (aO .add .none v30 v32 (aF 0 h)) fun v33 _=>
 ak (eF v22 (some v26) (some v33) (aF 0 h)) fun v34 _=>
 gtO (T.get fr (Pos.of 1)) fun w30_1=>ak (aO .neq .none v34 w30_1 (aF 0 h)) fun v36 _=>
 Out.nor (T.set (some v36) (Pos.of 37) fr) (aF 0 h))
def yT(fr:F)(h:Hp):Out:=
 Out.nor (T.set (some (.bool false)) (Pos.of 4) fr) h
def PG(fr:F)(h:Hp):Out:=
 gtO (T.get fr (Pos.of 0)) fun v0=>ak (aP v0 h) fun v39 h1=>
 ak (aN 1 v39 h1) fun v40 h2=>
 ak (aW v40 h2) fun v41 h3=>
 gtO (T.get fr (Pos.of 1)) fun v1=>ak (fH 1 v1 h3) fun v43 h5=>
 ak (aO .add .none v41 v43 h5) fun v44 h6=>
 ak (aP v0 h6) fun v45 h7=>
 ak (aN 1 v45 h7) fun v46 h8=>
 ak (cZ 1 v46 v44 h8) fun _u9 h9=>
 Out.nor fr h9
def PE(fr:F)(h:Hp):Out:=
 Out.nor (T.set (some (.bool true)) (Pos.of 4) fr) h
def wo:F→Hp→Out:=(aC uh (aC (aC ug (bn (.tmp 37) (aC yT Out.ret) Out.nor)) (aC PG (aC PE Out.ret))))
def alY:FuncId→Option Fun:=fun f=>none
def alo:aJ:=fun id=>match Nat.beq id 1 with|true=>some ([0,1,3,7,15,0,32,96,224,511,0,1024,4095,8191,16383,32767,65535,131071,16383,278527,802815,1851391,16383,4210687,12599295,29376511,16383,67125247,264257535,536870911,16383,2147483647,4294967295],[(0,.pure),(1,.pure),(2,.pure),(3,.read 0),(4,.pure),(5,.pure),(6,.pure),(7,.pure),(8,.read 0),(9,.pure),(10,.pure),(11,.pure),(12,.pure),(13,.pure),(14,.pure),(15,.pure),(16,.pure),(17,.read 0),(18,.pure),(19,.pure),(20,.pure),(21,.read 0),(22,.pure),(23,.pure),(24,.pure),(25,.read 0),(26,.pure),(27,.pure),(28,.pure),(29,.pure),(30,.pure),(31,.pure),(32,.pure)])|false=>none
def jR:Fun:=gI Tryz.prog ah alH alY alo lf Tryz.f246
theorem aHR:fE Tryz.prog ah Tryz.f246.ntmps alH alY alo lf (codeOf Tryz.f246)=wo:=by kernel_rfl
theorem G6(x0 x1:V)(h:Hp):jR [x0,x1] h=bD Tryz.prog [.tmp 4] (wo (T.set (some x1) (Pos.of 1) (T.set (some x0) (Pos.of 0) T.nil)) h):=fK (by kernel_rfl) aHR (by kernel_rfl) h
theorem Tf:aj Tryz.prog ah 246 jR:=eG aH aA Tryz.func246 (by kernel_rfl)
def alF:Nat→Bool:=fun t=>iy t [0,1,7]
def Pn(fr:F)(h:Hp):Out:=
 gtO (T.get fr (Pos.of 0)) fun v0=>gtO (T.get fr (Pos.of 1)) fun v1=>ak (jR [v0,v1] h) fun v6 h2=>
 ak (oUn .not v6 h2) fun v7 h3=>
 Out.nor (T.set (some v7) (Pos.of 7) fr) h3
def atA(fr:F)(h:Hp):Out:=
 gtO (T.get fr (Pos.of 0)) fun v0=>ak (rM [v0,(.int .i64 3)] h) fun v9 h1=>
 Out.nor fr h1
def SL:F→Hp→Out:=(aC Pn (bn (.tmp 7) atA Out.nor))
def alW:FuncId→Option Fun:=fun f=>match Nat.beq f 246 with|true=>some jR|false=>match Nat.beq f 192 with|true=>some rM|false=>none
def alm:aJ:=fun id=>none
def nM:Fun:=gI Tryz.prog ah alF alW alm lf Tryz.f251
theorem aHP:fE Tryz.prog ah Tryz.f251.ntmps alF alW alm lf (codeOf Tryz.f251)=SL:=by kernel_rfl
theorem ami(x0 x1:V)(h:Hp):nM [x0,x1] h=bD Tryz.prog [] (SL (T.set (some x1) (Pos.of 1) (T.set (some x0) (Pos.of 0) T.nil)) h):=fK (by kernel_rfl) aHP (by kernel_rfl) h
theorem ama:aj Tryz.prog ah 251 nM:=eG aH (ai Tf (ai amc aA)) Tryz.func251 (by kernel_rfl)
def alM:Nat→Bool:=fun t=>iy t [0,11,20,21]
def yX(fr:F)(h:Hp):Out:=
 gtO (T.get fr (Pos.of 0)) fun w0_0=>ak (aP w0_0 (aF 0 h)) fun v3 _=>
 ak (aN 1 v3 (aF 0 h)) fun v4 _=>
 ak (aW v4 (aF 0 h)) fun v5 _=>
 gtO (T.get fr (Pos.of 0)) fun w4_0=>ak (aP w4_0 (aF 0 h)) fun v7 _=>
 ak (aN 0 v7 (aF 0 h)) fun v8 _=>
 ak (aW v8 (aF 0 h)) fun v9 _=>
 ak (fH 1 v9 (aF 0 h)) fun v10 _=>
 ak (aO .lss .none v5 v10 (aF 0 h)) fun v11 _=>
 Out.nor (T.set (some v11) (Pos.of 11) fr) (aF 0 h)
def Rx(fr:F)(h:Hp):Out:=
 gtO (T.get fr (Pos.of 0)) fun w0_0=>ak (aP w0_0 (aF 0 h)) fun v13 _=>
 ak (aN 0 v13 (aF 0 h)) fun v14 _=>
 ak (aW v14 (aF 0 h)) fun v15 _=>
 gtO (T.get fr (Pos.of 0)) fun w4_0=>ak (aP w4_0 (aF 0 h)) fun v17 _=>
 ak (aN 1 v17 (aF 0 h)) fun v18 _=>
 ak (aW v18 (aF 0 h)) fun v19 _=>
 ak (bU v15 v19 (aF 0 h)) fun v20 _=>
 Out.nor (T.set (some v20) (Pos.of 20) fr) (aF 0 h)
def Rw(fr:F)(h:Hp):Out:=
 gtO (T.get fr (Pos.of 20)) fun v20=>ak (aO .eql .none v20 (.int .u8 32) h) fun v22 h0=>
 Out.nor (T.set (some v22) (Pos.of 21) fr) h0
def Ru(fr:F)(h:Hp):Out:=
 gtO (T.get fr (Pos.of 20)) fun v20=>ak (aO .eql .none v20 (.int .u8 9) h) fun v23 h0=>
 Out.nor (T.set (some v23) (Pos.of 21) fr) h0
def Rt(fr:F)(h:Hp):Out:=
 gtO (T.get fr (Pos.of 20)) fun v20=>ak (aO .eql .none v20 (.int .u8 10) h) fun v24 h0=>
 Out.nor (T.set (some v24) (Pos.of 21) fr) h0
def Ro(fr:F)(h:Hp):Out:=
 gtO (T.get fr (Pos.of 20)) fun v20=>ak (aO .eql .none v20 (.int .u8 13) h) fun v25 h0=>
 Out.nor (T.set (some v25) (Pos.of 21) fr) h0
def atS(fr:F)(h:Hp):Out:=
 gtO (T.get fr (Pos.of 0)) fun v0=>ak (aP v0 h) fun v27 h1=>
 ak (aN 1 v27 h1) fun v28 h2=>
 ak (aW v28 h2) fun v29 h3=>
 ak (aO .add .none v29 (.int .i64 1) h3) fun v30 h4=>
 ak (aP v0 h4) fun v31 h5=>
 ak (aN 1 v31 h5) fun v32 h6=>
 ak (cZ 1 v32 v30 h6) fun _u7 h7=>
 Out.nor fr h7
def zn:F→Hp→Out:=(aC (aC yX (bn (.tmp 11) Out.nor (Out.ex 0))) (dU 1 (aC (aC Rx (dU 2 (aC (aC Rw (bn (.tmp 21) Out.nor (aC Ru (bn (.tmp 21) Out.nor (aC Rt (bn (.tmp 21) Out.nor Ro)))))) (bn (.tmp 21) (aC atS (Out.ex 1)) Out.nor)))) Out.ret)))
def DL:F→Hp→Out:=(dU 0 (eU zn lf))
def al3:FuncId→Option Fun:=fun f=>none
def alu:aJ:=fun id=>match Nat.beq id 0 with|true=>some ([0,1,3,7,0,16,48,112,240,511],[(0,.pure),(1,.pure),(2,.pure),(3,.read 0),(4,.pure),(5,.pure),(6,.pure),(7,.read 0),(8,.pure),(9,.pure)])|false=>match Nat.beq id 1 with|true=>some ([0,1,3,7,0,16,48,112,255],[(0,.pure),(1,.pure),(2,.pure),(3,.read 0),(4,.pure),(5,.pure),(6,.pure),(7,.read 0),(8,.pure)])|false=>none
def pI:Fun:=gI Tryz.prog ah alM al3 alu lf Tryz.f190
theorem aHW:fE Tryz.prog ah Tryz.f190.ntmps alM al3 alu lf (codeOf Tryz.f190)=DL:=by kernel_rfl
theorem G7(x0:V)(h:Hp):pI [x0] h=bD Tryz.prog [] (DL (T.set (some x0) (Pos.of 0) T.nil) h):=fK (by kernel_rfl) aHW (by kernel_rfl) h
theorem aHF:aj Tryz.prog ah 190 pI:=eG aH aA Tryz.func190 (by kernel_rfl)
def alG:Nat→Bool:=fun t=>iy t [0,2,3,4,5,21,40,63,68]
def PD(fr:F)(h:Hp):Out:=
 Out.nor (T.set (some (.str [])) (Pos.of 2) fr) h
def Pz(fr:F)(h:Hp):Out:=
 gtO (T.get fr (Pos.of 0)) fun v0=>ak (nM [v0,(.str [34])] h) fun v7 h1=>
 Out.nor fr h1
def Py(fr:F)(h:Hp):Out:=
 Out.nor (T.set (some .af) (Pos.of 3) fr) h
def yS(fr:F)(h:Hp):Out:=
 gtO (T.get fr (Pos.of 0)) fun w0_0=>ak (aP w0_0 (aF 0 h)) fun v42 _=>
 ak (aN 1 v42 (aF 0 h)) fun v43 _=>
 ak (aW v43 (aF 0 h)) fun v44 _=>
 gtO (T.get fr (Pos.of 0)) fun w4_0=>ak (aP w4_0 (aF 0 h)) fun v46 _=>
 ak (aN 0 v46 (aF 0 h)) fun v47 _=>
 ak (aW v47 (aF 0 h)) fun v48 _=>
 ak (fH 1 v48 (aF 0 h)) fun v49 _=>
 ak (aO .eql .none v44 v49 (aF 0 h)) fun v50 _=>
 Out.nor (T.set (some v50) (Pos.of 40) fr) (aF 0 h)
def yR(fr:F)(h:Hp):Out:=
 gtO (T.get fr (Pos.of 0)) fun w0_0=>ak (aP w0_0 (aF 0 h)) fun v52 _=>
 ak (aN 0 v52 (aF 0 h)) fun v53 _=>
 ak (aW v53 (aF 0 h)) fun v54 _=>
 gtO (T.get fr (Pos.of 0)) fun w4_0=>ak (aP w4_0 (aF 0 h)) fun v56 _=>
 ak (aN 1 v56 (aF 0 h)) fun v57 _=>
 ak (aW v57 (aF 0 h)) fun v58 _=>
 ak (bU v54 v58 (aF 0 h)) fun v59 _=>
 ak (aO .lss .none v59 (.int .u8 32) (aF 0 h)) fun v60 _=>
 Out.nor (T.set (some v60) (Pos.of 40) fr) (aF 0 h)
def akM(fr:F)(h:Hp):Out:=
 gtO (T.get fr (Pos.of 0)) fun v0=>ak (rM [v0,(.int .i64 3)] h) fun v62 h1=>
 Out.nor fr h1
def vY(fr:F)(h:Hp):Out:=
 gtO (T.get fr (Pos.of 0)) fun v0=>ak (jR [v0,(.str [34])] h) fun v65 h1=>
 Out.nor (T.set (some v65) (Pos.of 63) fr) h1
def Gl(fr:F)(h:Hp):Out:=
 gtO (T.get fr (Pos.of 3)) fun v3=>ak (dR v3 h) fun v67 h1=>
 Out.nor (T.set (some v67) (Pos.of 2) fr) h1
def Gj(fr:F)(h:Hp):Out:=
 gtO (T.get fr (Pos.of 0)) fun v0=>ak (jR [v0,(.str [92])] h) fun v70 h1=>
 Out.nor (T.set (some v70) (Pos.of 68) fr) h1
def akL(fr:F)(h:Hp):Out:=
 gtO (T.get fr (Pos.of 3)) fun v3=>gtO (T.get fr (Pos.of 0)) fun v0=>ak (Tq [v0] h) fun v73 h2=>
 ak (dQ 5 1 1 v3 v73 h2) fun v74 h3=>
 Out.nor (T.set (some v74) (Pos.of 3) fr) h3
def Px(fr:F)(h:Hp):Out:=
 gtO (T.get fr (Pos.of 0)) fun w0_0=>ak (aP w0_0 (aF 0 h)) fun v10 _=>
 ak (aN 0 v10 (aF 0 h)) fun v11 _=>
 ak (aW v11 (aF 0 h)) fun v12 _=>
 gtO (T.get fr (Pos.of 0)) fun w4_0=>ak (aP w4_0 (aF 0 h)) fun v14 _=>
 ak (aN 1 v14 (aF 0 h)) fun v15 _=>
 ak (aW v15 (aF 0 h)) fun v16 _=>
 ak (pG [v12,v16] (aF 0 h)) fun v17 h8=>
 ak (bM 0 v17 h8) fun v18 _=>
 ak (bM 1 v17 h8) fun v19 _=>
 Out.nor (T.set (some v19) (Pos.of 5) (T.set (some v18) (Pos.of 4) fr)) h8
def Pv(fr:F)(h:Hp):Out:=
 gtO (T.get fr (Pos.of 4)) fun v4=>ak (aO .lss .none v4 (.int .i64 0) h) fun v21 h1=>
 Out.nor (T.set (some v21) (Pos.of 21) fr) h1
def atB(fr:F)(h:Hp):Out:=
 gtO (T.get fr (Pos.of 0)) fun v0=>ak (rM [v0,(.int .i64 3)] h) fun v23 h1=>
 Out.nor fr h1
def Pq(fr:F)(h:Hp):Out:=
 gtO (T.get fr (Pos.of 3)) fun w0_3=>gtO (T.get fr (Pos.of 0)) fun w1_0=>ak (aP w1_0 (aF 0 h)) fun v26 _=>
 ak (aN 0 v26 (aF 0 h)) fun v27 _=>
 ak (aW v27 (aF 0 h)) fun v28 _=>
 gtO (T.get fr (Pos.of 0)) fun w5_0=>ak (aP w5_0 (aF 0 h)) fun v30 _=>
 ak (aN 1 v30 (aF 0 h)) fun v31 _=>
 ak (aW v31 (aF 0 h)) fun v32 _=>
 gtO (T.get fr (Pos.of 5)) fun w9_5=>ak (eF v28 (some v32) (some w9_5) (aF 0 h)) fun v34 _=>
 ak (dQ 5 1 1 w0_3 v34 (aF 0 h)) fun v35 h11=>
 Out.nor (T.set (some v35) (Pos.of 3) fr) h11
def Po(fr:F)(h:Hp):Out:=
 gtO (T.get fr (Pos.of 0)) fun v0=>gtO (T.get fr (Pos.of 5)) fun v5=>ak (aP v0 h) fun v38 h2=>
 ak (aN 1 v38 h2) fun v39 h3=>
 ak (cZ 1 v39 v5 h3) fun _u4 h4=>
 Out.nor fr h4
def zi:F→Hp→Out:=(dU 1 (dU 2 (aC (aC yS (bn (.tmp 40) Out.nor yR)) (bn (.tmp 40) akM (aC vY (bn (.tmp 63) (aC Gl Out.ret) (aC Gj (bn (.tmp 68) akL (aC Px (aC (aC Pv (bn (.tmp 21) atB Out.nor)) (aC Pq Po)))))))))))
def SN:F→Hp→Out:=(aC PD (aC Pz (aC Py (dU 0 (eU zi lf)))))
def alX:FuncId→Option Fun:=fun f=>match Nat.beq f 251 with|true=>some nM|false=>match Nat.beq f 192 with|true=>some rM|false=>match Nat.beq f 246 with|true=>some jR|false=>match Nat.beq f 343 with|true=>some Tq|false=>match Nat.beq f 224 with|true=>some pG|false=>none
def aln:aJ:=fun id=>match Nat.beq id 8 with|true=>some ([0,1,3,7,0,16,48,112,240,511,1023],[(0,.pure),(1,.pure),(2,.pure),(3,.read 0),(4,.pure),(5,.pure),(6,.pure),(7,.read 0),(8,.pure),(9,.pure),(10,.pure)])|false=>match Nat.beq id 9 with|true=>some ([0,1,3,7,0,16,48,112,255,511,1023],[(0,.pure),(1,.pure),(2,.pure),(3,.read 0),(4,.pure),(5,.pure),(6,.pure),(7,.read 0),(8,.pure),(9,.pure),(10,.pure)])|false=>match Nat.beq id 3 with|true=>some ([0,1,3,7,0,16,48,112,255,511,1023,1023,2047,8191],[(0,.pure),(1,.pure),(2,.pure),(3,.read 0),(4,.pure),(5,.pure),(6,.pure),(7,.read 0),(8,.heavy),(9,.pure),(10,.pure),(11,.pure),(12,.pure),(13,.pure)])|false=>match Nat.beq id 6 with|true=>some ([0,0,2,6,14,0,32,96,224,0,1022,2047,4095],[(0,.pure),(1,.pure),(2,.pure),(3,.pure),(4,.read 0),(5,.pure),(6,.pure),(7,.pure),(8,.read 0),(9,.pure),(10,.pure),(11,.heavy),(12,.pure)])|false=>none
def rG:Fun:=gI Tryz.prog ah alG alX aln lf Tryz.f250
theorem aHQ:fE Tryz.prog ah Tryz.f250.ntmps alG alX aln lf (codeOf Tryz.f250)=SN:=by kernel_rfl
theorem amj(x0:V)(h:Hp):rG [x0] h=bD Tryz.prog [.tmp 2] (SN (T.set (some x0) (Pos.of 0) T.nil) h):=fK (by kernel_rfl) aHQ (by kernel_rfl) h
theorem aHA:aj Tryz.prog ah 250 rG:=eG aH (ai ama (ai amc (ai Tf (ai aHw (ai amb aA))))) Tryz.func250 (by kernel_rfl)
def DN:Fun:=fun _ _=>.bad
theorem aNN:aj Tryz.prog ah 49 DN:=fun _ _ _ _ _ _ _ e=>by cases e
def Tt:Fun:=fun _ _=>.bad
theorem aHG:aj Tryz.prog ah 187 Tt:=fun _ _ _ _ _ _ _ e=>by cases e
def alO:Nat→Bool:=fun t=>iy t [0,1,4,34]
def um(fr:F)(h:Hp):Out:=
 Out.nor (T.set (some (.bool false)) (Pos.of 4) fr) h
def uj(fr:F)(h:Hp):Out:=
 gtO (T.get fr (Pos.of 0)) fun w0_0=>ak (aP w0_0 (aF 0 h)) fun v6 _=>
 ak (aN 3 v6 (aF 0 h)) fun v7 _=>
 ak (aW v7 (aF 0 h)) fun v8 _=>
 ak (aO .eql .none v8 (.int .i64 0) (aF 0 h)) fun v9 _=>
 ifB v9 (gtO (T.get fr (Pos.of 0)) fun w6_0=>ak (aP w6_0 (aF 0 h)) fun v12 _=>
 ak (aN 1 v12 (aF 0 h)) fun v13 _=>
 ak (aW v13 (aF 0 h)) fun v14 _=>
 gtO (T.get fr (Pos.of 0)) fun w10_0=>ak (aP w10_0 (aF 0 h)) fun v16 _=>
 ak (aN 0 v16 (aF 0 h)) fun v17 _=>
 ak (aW v17 (aF 0 h)) fun v18 _=>
 ak (fH 1 v18 (aF 0 h)) fun v19 _=>
 ak (aO .lss .none v14 v19 (aF 0 h)) fun v20 _=>
 ifB v20 (gtO (T.get fr (Pos.of 0)) fun w18_0=>ak (aP w18_0 (aF 0 h)) fun v24 _=>
 ak (aN 0 v24 (aF 0 h)) fun v25 _=>
 ak (aW v25 (aF 0 h)) fun v26 _=>
 gtO (T.get fr (Pos.of 0)) fun w22_0=>ak (aP w22_0 (aF 0 h)) fun v28 _=>
 ak (aN 1 v28 (aF 0 h)) fun v29 _=>
 ak (aW v29 (aF 0 h)) fun v30 _=>
 ak (bU v26 v30 (aF 0 h)) fun v31 _=>
 gtO (T.get fr (Pos.of 1)) fun w27_1=>ak (aO .eql .none v31 w27_1 (aF 0 h)) fun v33 _=>
 Out.nor (T.set (some v33) (Pos.of 34) fr) (aF 0 h)) (Out.nor (T.set (some (.bool false)) (Pos.of 34) fr) (aF 0 h))) (Out.nor (T.set (some (.bool false)) (Pos.of 34) fr) (aF 0 h))
def RJ(fr:F)(h:Hp):Out:=
 gtO (T.get fr (Pos.of 0)) fun v0=>ak (aP v0 h) fun v36 h1=>
 ak (aN 1 v36 h1) fun v37 h2=>
 ak (aW v37 h2) fun v38 h3=>
 ak (aO .add .none v38 (.int .i64 1) h3) fun v39 h4=>
 ak (aP v0 h4) fun v40 h5=>
 ak (aN 1 v40 h5) fun v41 h6=>
 ak (cZ 1 v41 v39 h6) fun _u7 h7=>
 Out.nor fr h7
def RI(fr:F)(h:Hp):Out:=
 Out.nor (T.set (some (.bool true)) (Pos.of 4) fr) h
def yY(fr:F)(h:Hp):Out:=
 Out.nor (T.set (some (.bool false)) (Pos.of 4) fr) h
def wu:F→Hp→Out:=(aC um (aC (aC uj (bn (.tmp 34) (aC RJ (aC RI Out.ret)) Out.nor)) (aC yY Out.ret)))
def al5:FuncId→Option Fun:=fun f=>none
def alx:aJ:=fun id=>match Nat.beq id 1 with|true=>some ([0,1,3,7,15,31,63,127,255,511,63,1087,3135,7231,15423,32767,65535,131071,262143,524287,1048575,2097151,262143,4456447,12845055,29622271,67108863,262143,268435455,536870911],[(0,.pure),(1,.pure),(2,.pure),(3,.read 0),(4,.pure),(5,.pure),(6,.pure),(7,.pure),(8,.pure),(9,.read 0),(10,.pure),(11,.pure),(12,.pure),(13,.read 0),(14,.pure),(15,.pure),(16,.pure),(17,.pure),(18,.pure),(19,.pure),(20,.pure),(21,.read 0),(22,.pure),(23,.pure),(24,.pure),(25,.read 0),(26,.pure),(27,.pure),(28,.pure),(29,.pure)])|false=>none
def nO:Fun:=gI Tryz.prog ah alO al5 alx lf Tryz.f186
theorem aHY:fE Tryz.prog ah Tryz.f186.ntmps alO al5 alx lf (codeOf Tryz.f186)=wu:=by kernel_rfl
theorem wF(x0 x1:V)(h:Hp):nO [x0,x1] h=bD Tryz.prog [.tmp 4] (wu (T.set (some x1) (Pos.of 1) (T.set (some x0) (Pos.of 0) T.nil)) h):=fK (by kernel_rfl) aHY (by kernel_rfl) h
theorem aHH:aj Tryz.prog ah 186 nO:=eG aH aA Tryz.func186 (by kernel_rfl)
def avE:Nat→Bool:=fun t=>iy t [0,59]
def E8(fr:F)(h:Hp):Out:=
 gtO (T.get fr (Pos.of 0)) fun w0_0=>ak (aP w0_0 (aF 0 h)) fun v3 _=>
 ak (aN 1 v3 (aF 0 h)) fun v4 _=>
 ak (aW v4 (aF 0 h)) fun v5 _=>
 gtO (T.get fr (Pos.of 0)) fun w4_0=>ak (aP w4_0 (aF 0 h)) fun v7 _=>
 ak (aN 0 v7 (aF 0 h)) fun v8 _=>
 ak (aW v8 (aF 0 h)) fun v9 _=>
 ak (fH 1 v9 (aF 0 h)) fun v10 _=>
 ak (aO .lss .none v5 v10 (aF 0 h)) fun v11 _=>
 ifB v11 (gtO (T.get fr (Pos.of 0)) fun w11_0=>ak (aP w11_0 (aF 0 h)) fun v14 _=>
 ak (aN 0 v14 (aF 0 h)) fun v15 _=>
 ak (aW v15 (aF 0 h)) fun v16 _=>
 gtO (T.get fr (Pos.of 0)) fun w15_0=>ak (aP w15_0 (aF 0 h)) fun v18 _=>
 ak (aN 1 v18 (aF 0 h)) fun v19 _=>
 ak (aW v19 (aF 0 h)) fun v20 _=>
 ak (bU v16 v20 (aF 0 h)) fun v21 _=>
 ak (aO .eql .none v21 (.int .u8 32) (aF 0 h)) fun v22 _=>
 ifB v22 (Out.nor (T.set (some (.bool true)) (Pos.of 59) fr) (aF 0 h)) (gtO (T.get fr (Pos.of 0)) fun w22_0=>ak (aP w22_0 (aF 0 h)) fun v25 _=>
 ak (aN 0 v25 (aF 0 h)) fun v26 _=>
 ak (aW v26 (aF 0 h)) fun v27 _=>
 gtO (T.get fr (Pos.of 0)) fun w26_0=>ak (aP w26_0 (aF 0 h)) fun v29 _=>
 ak (aN 1 v29 (aF 0 h)) fun v30 _=>
 ak (aW v30 (aF 0 h)) fun v31 _=>
 ak (bU v27 v31 (aF 0 h)) fun v32 _=>
 ak (aO .eql .none v32 (.int .u8 9) (aF 0 h)) fun v33 _=>
 ifB v33 (Out.nor (T.set (some (.bool true)) (Pos.of 59) fr) (aF 0 h)) (gtO (T.get fr (Pos.of 0)) fun w34_0=>ak (aP w34_0 (aF 0 h)) fun v37 _=>
 ak (aN 0 v37 (aF 0 h)) fun v38 _=>
 ak (aW v38 (aF 0 h)) fun v39 _=>
 gtO (T.get fr (Pos.of 0)) fun w38_0=>ak (aP w38_0 (aF 0 h)) fun v41 _=>
 ak (aN 1 v41 (aF 0 h)) fun v42 _=>
 ak (aW v42 (aF 0 h)) fun v43 _=>
 ak (bU v39 v43 (aF 0 h)) fun v44 _=>
 ak (aO .eql .none v44 (.int .u8 10) (aF 0 h)) fun v45 _=>
 ifB v45 (Out.nor (T.set (some (.bool true)) (Pos.of 59) fr) (aF 0 h)) (gtO (T.get fr (Pos.of 0)) fun w46_0=>ak (aP w46_0 (aF 0 h)) fun v49 _=>
 ak (aN 0 v49 (aF 0 h)) fun v50 _=>
 ak (aW v50 (aF 0 h)) fun v51 _=>
 gtO (T.get fr (Pos.of 0)) fun w50_0=>ak (aP w50_0 (aF 0 h)) fun v53 _=>
 ak (aN 1 v53 (aF 0 h)) fun v54 _=>
 ak (aW v54 (aF 0 h)) fun v55 _=>
 ak (bU v51 v55 (aF 0 h)) fun v56 _=>
 ak (aO .eql .none v56 (.int .u8 13) (aF 0 h)) fun v57 _=>
 Out.nor (T.set (some v57) (Pos.of 59) fr) (aF 0 h))))) (Out.nor (T.set (some (.bool false)) (Pos.of 59) fr) (aF 0 h))
def aDH(fr:F)(h:Hp):Out:=
 gtO (T.get fr (Pos.of 0)) fun v0=>ak (aP v0 h) fun v61 h1=>
 ak (aN 1 v61 h1) fun v62 h2=>
 ak (aW v62 h2) fun v63 h3=>
 ak (aO .add .none v63 (.int .i64 1) h3) fun v64 h4=>
 ak (aP v0 h4) fun v65 h5=>
 ak (aN 1 v65 h5) fun v66 h6=>
 ak (cZ 1 v66 v64 h6) fun _u7 h7=>
 Out.nor fr h7
def Fa:F→Hp→Out:=(aC (aC E8 (bn (.tmp 59) Out.nor (Out.ex 0))) (dU 1 aDH))
def Ij:F→Hp→Out:=(dU 0 (eU Fa lf))
def avF:FuncId→Option Fun:=fun f=>none
def avD:aJ:=fun id=>match Nat.beq id 0 with|true=>some ([0,1,3,7,0,16,48,112,240,511,1023,2047,4095,8191,16383,2047,34815,100351,231423,524287,1048575,2097151,4194303,8388607,16777215,33554431,4194303,71303167,205520895,473956351,1073741823,2147483647,4294967295,8589934591,17179869183,34359738367,68719476735,137438953471,17179869183,292057776127,841813590015,1941325217791,4398046511103,8796093022207,17592186044415,35184372088831,70368744177663,140737488355327,281474976710655,562949953421311,70368744177663,1196268651020287,3448068464705535,7951668092076031,18014398509481983,36028797018963967,72057594037927935,144115188075855871],[(0,.pure),(1,.pure),(2,.pure),(3,.read 0),(4,.pure),(5,.pure),(6,.pure),(7,.read 0),(8,.pure),(9,.pure),(10,.pure),(11,.pure),(12,.pure),(13,.pure),(14,.read 0),(15,.pure),(16,.pure),(17,.pure),(18,.read 0),(19,.pure),(20,.pure),(21,.pure),(22,.pure),(23,.pure),(24,.pure),(25,.read 0),(26,.pure),(27,.pure),(28,.pure),(29,.read 0),(30,.pure),(31,.pure),(32,.pure),(33,.pure),(34,.pure),(35,.pure),(36,.pure),(37,.read 0),(38,.pure),(39,.pure),(40,.pure),(41,.read 0),(42,.pure),(43,.pure),(44,.pure),(45,.pure),(46,.pure),(47,.pure),(48,.pure),(49,.read 0),(50,.pure),(51,.pure),(52,.pure),(53,.read 0),(54,.pure),(55,.pure),(56,.pure),(57,.pure)])|false=>none
def uo:Fun:=gI Tryz.prog ah avE avF avD lf Tryz.f48
theorem aNP:fE Tryz.prog ah Tryz.f48.ntmps avE avF avD lf (codeOf Tryz.f48)=Ij:=by kernel_rfl
theorem Tj(x0:V)(h:Hp):uo [x0] h=bD Tryz.prog [] (Ij (T.set (some x0) (Pos.of 0) T.nil) h):=fK (by kernel_rfl) aNP (by kernel_rfl) h
theorem aNO:aj Tryz.prog ah 48 uo:=eG aH aA Tryz.func48 (by kernel_rfl)
def alR:Nat→Bool:=fun t=>iy t [0,2,3,4,5,6,11,21,46,65,77,91]
def SE(fr:F)(h:Hp):Out:=
 Out.nor (T.set (some (.str [])) (Pos.of 2) fr) h
def SC(fr:F)(h:Hp):Out:=
 Out.nor (T.set (some .af) (Pos.of 3) fr) h
def zh(fr:F)(h:Hp):Out:=
 gtO (T.get fr (Pos.of 0)) fun v0=>ak (aP v0 h) fun v8 h1=>
 ak (aN 3 v8 h1) fun v9 h2=>
 ak (aW v9 h2) fun v10 h3=>
 ak (aO .eql .none v10 (.int .i64 0) h3) fun v11 h4=>
 Out.nor (T.set (some v11) (Pos.of 11) fr) h4
def zf(fr:F)(h:Hp):Out:=
 gtO (T.get fr (Pos.of 0)) fun w0_0=>ak (aP w0_0 (aF 0 h)) fun v13 _=>
 ak (aN 1 v13 (aF 0 h)) fun v14 _=>
 ak (aW v14 (aF 0 h)) fun v15 _=>
 gtO (T.get fr (Pos.of 0)) fun w4_0=>ak (aP w4_0 (aF 0 h)) fun v17 _=>
 ak (aN 0 v17 (aF 0 h)) fun v18 _=>
 ak (aW v18 (aF 0 h)) fun v19 _=>
 ak (fH 1 v19 (aF 0 h)) fun v20 _=>
 ak (aO .geq .none v15 v20 (aF 0 h)) fun v21 _=>
 Out.nor (T.set (some v21) (Pos.of 21) fr) (aF 0 h)
def at6(fr:F)(h:Hp):Out:=
 gtO (T.get fr (Pos.of 0)) fun v0=>ak (DN [v0,(.int .i64 3)] h) fun v23 h1=>
 Out.nor fr h1
def y9(fr:F)(h:Hp):Out:=
 gtO (T.get fr (Pos.of 0)) fun w0_0=>ak (aP w0_0 (aF 0 h)) fun v25 _=>
 ak (aN 0 v25 (aF 0 h)) fun v26 _=>
 ak (aW v26 (aF 0 h)) fun v27 _=>
 gtO (T.get fr (Pos.of 0)) fun w4_0=>ak (aP w4_0 (aF 0 h)) fun v29 _=>
 ak (aN 1 v29 (aF 0 h)) fun v30 _=>
 ak (aW v30 (aF 0 h)) fun v31 _=>
 ak (bU v27 v31 (aF 0 h)) fun v32 _=>
 Out.nor (T.set (some v32) (Pos.of 4) fr) (aF 0 h)
def vZ(fr:F)(h:Hp):Out:=
 gtO (T.get fr (Pos.of 4)) fun v4=>ak (aO .eql .none v4 (.int .u8 34) h) fun v67 h1=>
 Out.nor (T.set (some v67) (Pos.of 65) fr) h1
def GY(fr:F)(h:Hp):Out:=
 gtO (T.get fr (Pos.of 0)) fun v0=>ak (aP v0 h) fun v69 h1=>
 ak (aN 1 v69 h1) fun v70 h2=>
 ak (aW v70 h2) fun v71 h3=>
 ak (aO .add .none v71 (.int .i64 1) h3) fun v72 h4=>
 ak (aP v0 h4) fun v73 h5=>
 ak (aN 1 v73 h5) fun v74 h6=>
 ak (cZ 1 v74 v72 h6) fun _u7 h7=>
 Out.nor fr h7
def GX(fr:F)(h:Hp):Out:=
 gtO (T.get fr (Pos.of 3)) fun v3=>ak (dR v3 h) fun v76 h1=>
 Out.nor (T.set (some v76) (Pos.of 2) fr) h1
def GV(fr:F)(h:Hp):Out:=
 gtO (T.get fr (Pos.of 4)) fun v4=>ak (aO .eql .none v4 (.int .u8 92) h) fun v79 h1=>
 Out.nor (T.set (some v79) (Pos.of 77) fr) h1
def alg(fr:F)(h:Hp):Out:=
 gtO (T.get fr (Pos.of 0)) fun v0=>ak (aP v0 h) fun v81 h1=>
 ak (aN 1 v81 h1) fun v82 h2=>
 ak (aW v82 h2) fun v83 h3=>
 ak (aO .add .none v83 (.int .i64 1) h3) fun v84 h4=>
 ak (aP v0 h4) fun v85 h5=>
 ak (aN 1 v85 h5) fun v86 h6=>
 ak (cZ 1 v86 v84 h6) fun _u7 h7=>
 Out.nor fr h7
def alf(fr:F)(h:Hp):Out:=
 gtO (T.get fr (Pos.of 3)) fun v3=>gtO (T.get fr (Pos.of 0)) fun v0=>ak (Tt [v0] h) fun v89 h2=>
 ak (dQ 5 1 1 v3 v89 h2) fun v90 h3=>
 Out.nor (T.set (some v90) (Pos.of 3) fr) h3
def GU(fr:F)(h:Hp):Out:=
 gtO (T.get fr (Pos.of 4)) fun v4=>ak (aO .lss .none v4 (.int .u8 32) h) fun v93 h1=>
 Out.nor (T.set (some v93) (Pos.of 91) fr) h1
def ale(fr:F)(h:Hp):Out:=
 gtO (T.get fr (Pos.of 0)) fun v0=>ak (DN [v0,(.int .i64 3)] h) fun v95 h1=>
 Out.nor fr h1
def Sz(fr:F)(h:Hp):Out:=
 gtO (T.get fr (Pos.of 0)) fun w0_0=>ak (aP w0_0 (aF 0 h)) fun v35 _=>
 ak (aN 0 v35 (aF 0 h)) fun v36 _=>
 ak (aW v36 (aF 0 h)) fun v37 _=>
 gtO (T.get fr (Pos.of 0)) fun w4_0=>ak (aP w4_0 (aF 0 h)) fun v39 _=>
 ak (aN 1 v39 (aF 0 h)) fun v40 _=>
 ak (aW v40 (aF 0 h)) fun v41 _=>
 ak (pJ [v37,v41] (aF 0 h)) fun v42 h8=>
 ak (bM 0 v42 h8) fun v43 _=>
 ak (bM 1 v42 h8) fun v44 _=>
 Out.nor (T.set (some v44) (Pos.of 6) (T.set (some v43) (Pos.of 5) fr)) h8
def Sv(fr:F)(h:Hp):Out:=
 gtO (T.get fr (Pos.of 5)) fun v5=>ak (aO .lss .none v5 (.int .i64 0) h) fun v46 h1=>
 Out.nor (T.set (some v46) (Pos.of 46) fr) h1
def atZ(fr:F)(h:Hp):Out:=
 gtO (T.get fr (Pos.of 0)) fun v0=>ak (DN [v0,(.int .i64 3)] h) fun v48 h1=>
 Out.nor fr h1
def Sr(fr:F)(h:Hp):Out:=
 gtO (T.get fr (Pos.of 3)) fun w0_3=>gtO (T.get fr (Pos.of 0)) fun w1_0=>ak (aP w1_0 (aF 0 h)) fun v51 _=>
 ak (aN 0 v51 (aF 0 h)) fun v52 _=>
 ak (aW v52 (aF 0 h)) fun v53 _=>
 gtO (T.get fr (Pos.of 0)) fun w5_0=>ak (aP w5_0 (aF 0 h)) fun v55 _=>
 ak (aN 1 v55 (aF 0 h)) fun v56 _=>
 ak (aW v56 (aF 0 h)) fun v57 _=>
 gtO (T.get fr (Pos.of 6)) fun w9_6=>ak (eF v53 (some v57) (some w9_6) (aF 0 h)) fun v59 _=>
 ak (dQ 5 1 1 w0_3 v59 (aF 0 h)) fun v60 h11=>
 Out.nor (T.set (some v60) (Pos.of 3) fr) h11
def GZ(fr:F)(h:Hp):Out:=
 gtO (T.get fr (Pos.of 0)) fun v0=>gtO (T.get fr (Pos.of 6)) fun v6=>ak (aP v0 h) fun v63 h2=>
 ak (aN 1 v63 h2) fun v64 h3=>
 ak (cZ 1 v64 v6 h3) fun _u4 h4=>
 Out.nor fr h4
def ald(fr:F)(h:Hp):Out:=
 Out.nor (T.set (some (.str [])) (Pos.of 2) fr) h
def zu:F→Hp→Out:=(aC (aC zh (bn (.tmp 11) Out.nor (Out.ex 0))) (dU 1 (aC (aC zf (bn (.tmp 21) (aC at6 (Out.ex 0)) Out.nor)) (aC y9 (dU 2 (aC vZ (bn (.tmp 65) (aC GY (aC GX Out.ret)) (aC GV (bn (.tmp 77) (aC alg alf) (aC GU (bn (.tmp 91) ale (aC Sz (aC (aC Sv (bn (.tmp 46) (aC atZ (Out.ex 2)) Out.nor)) (aC Sr GZ))))))))))))))
def Td:F→Hp→Out:=(aC SE (aC SC (aC (dU 0 (eU zu lf)) (aC ald Out.ret))))
def al8:FuncId→Option Fun:=fun f=>match Nat.beq f 49 with|true=>some DN|false=>match Nat.beq f 187 with|true=>some Tt|false=>match Nat.beq f 188 with|true=>some pJ|false=>none
def alA:aJ:=fun id=>match Nat.beq id 3 with|true=>some ([0,1,3,7,0,16,48,112,240,511],[(0,.pure),(1,.pure),(2,.pure),(3,.read 0),(4,.pure),(5,.pure),(6,.pure),(7,.read 0),(8,.pure),(9,.pure)])|false=>match Nat.beq id 5 with|true=>some ([0,1,3,7,0,16,48,112,255,511],[(0,.pure),(1,.pure),(2,.pure),(3,.read 0),(4,.pure),(5,.pure),(6,.pure),(7,.read 0),(8,.pure),(9,.pure)])|false=>match Nat.beq id 6 with|true=>some ([0,1,3,7,0,16,48,112,255,511,1023,1023,2047,8191],[(0,.pure),(1,.pure),(2,.pure),(3,.read 0),(4,.pure),(5,.pure),(6,.pure),(7,.read 0),(8,.heavy),(9,.pure),(10,.pure),(11,.pure),(12,.pure),(13,.pure)])|false=>match Nat.beq id 9 with|true=>some ([0,0,2,6,14,0,32,96,224,0,1022,2047,4095],[(0,.pure),(1,.pure),(2,.pure),(3,.pure),(4,.read 0),(5,.pure),(6,.pure),(7,.pure),(8,.read 0),(9,.pure),(10,.pure),(11,.heavy),(12,.pure)])|false=>none
def rO:Fun:=gI Tryz.prog ah alR al8 alA lf Tryz.f123
theorem aH1:fE Tryz.prog ah Tryz.f123.ntmps alR al8 alA lf (codeOf Tryz.f123)=Td:=by kernel_rfl
theorem ams(x0:V)(h:Hp):rO [x0] h=bD Tryz.prog [.tmp 2] (Td (T.set (some x0) (Pos.of 0) T.nil) h):=fK (by kernel_rfl) aH1 (by kernel_rfl) h
theorem aHK:aj Tryz.prog ah 123 rO:=eG aH (ai aNN (ai aHG (ai amd aA))) Tryz.func123 (by kernel_rfl)
end Go.Proofs.Jm
