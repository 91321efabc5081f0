/- Part of the claim: facts that its last text uses. No conditions. -/
import Derived.Test.YtfaolchpaooboaaGreatDoorJbAT
import Derived.KernelRfl
import Derived.Test.YtfaolchpaooboaaGreatDoorJbAO
import Derived.Test.YtfaolchpaooboaaGreatDoorJbAR
import Derived.Test.YtfaolchpaooboaaGreatDoorJbAE
import Derived.Test.YtfaolchpaooboaaGreatDoorJbAH
import Derived.Test.YtfaolchpaooboaaGreatDoorJbAJ
import Derived.Test.YtfaolchpaooboaaGreatDoorJbAK
import Derived.Test.YtfaolchpaooboaaGreatDoorJbAM
set_option linter.all false
noncomputable section
namespace Go.Proofs.Jm
open Go Go.Proofs Go.Vm
set_option maxRecDepth 100000
set_option maxHeartbeats 4000000
def Tn:Fun:=Hq
theorem aHv:aj Tryz.prog ah 345 Tn:=II Tryz.func345 (by kernel_rfl) (by kernel_rfl) (by kernel_rfl) (by kernel_rfl)
def alE:Nat→Bool:=fun t=>iy t [0,6,19]
def Pm(fr:F)(h:Hp):Out:=
 gtO (T.get fr (Pos.of 0)) fun v0=>ak (aP v0 h) fun v3 h1=>
 ak (aN 0 v3 h1) fun v4 h2=>
 ak (aW v4 h2) fun v5 h3=>
 ak (aO .eql (.ptr 2) v5 .fJ h3) fun v6 h4=>
 Out.nor (T.set (some v6) (Pos.of 6) fr) h4
def atz(fr:F)(h:Hp):Out:=
 gtO (T.get fr (Pos.of 0)) fun v0=>ak (Js v0 h) fun v9 h2=>
 ak (Tn [v9] h2) fun v10 h3=>
 ak (vT Tryz.prog 210 v10 h3) fun v11 h4=>
 ak (aP v0 h4) fun v12 h5=>
 ak (aN 0 v12 h5) fun v13 h6=>
 ak (cZ 1 v13 v11 h6) fun _u7 h7=>
 Out.nor fr h7
def Pj(fr:F)(h:Hp):Out:=
 gtO (T.get fr (Pos.of 0)) fun v0=>ak (aP v0 h) fun v15 h1=>
 ak (aN 0 v15 h1) fun v16 h2=>
 ak (aW v16 h2) fun v17 h3=>
 ak (aO .neq (.ptr 2) v17 v0 h3) fun v19 h5=>
 Out.nor (T.set (some v19) (Pos.of 19) fr) h5
def SK:F→Hp→Out:=(aC Pm (bn (.tmp 6) atz (aC Pj (bn (.tmp 19) aUd Out.nor))))
def alV:FuncId→Option Fun:=fun f=>match Nat.beq f 345 with|true=>some Tn|false=>none
def alk:aJ:=fun id=>none
def wC:Fun:=gI Tryz.prog ah alE alV alk lf Tryz.f256
theorem aHO:fE Tryz.prog ah Tryz.f256.ntmps alE alV alk lf (codeOf Tryz.f256)=SK:=by kernel_rfl
theorem amh(x0:V)(h:Hp):wC [x0] h=bD Tryz.prog [] (SK (T.set (some x0) (Pos.of 0) T.nil) h):=fK (by kernel_rfl) aHO (by kernel_rfl) h
theorem aHz:aj Tryz.prog ah 256 wC:=eG aH (ai aHv aA) Tryz.func256 (by kernel_rfl)
def alD:Nat→Bool:=fun t=>iy t [0,1,4]
def Ph(fr:F)(h:Hp):Out:=
 Out.nor (T.set (some .iw) (Pos.of 4) fr) h
def Pg(fr:F)(h:Hp):Out:=
 gtO (T.get fr (Pos.of 0)) fun v0=>ak (wC [v0] h) fun v6 h1=>
 Out.nor fr h1
def Pe(fr:F)(h:Hp):Out:=
 gtO (T.get fr (Pos.of 0)) fun v0=>ak (aP v0 h) fun v9 h2=>
 ak (aN 1 v9 h2) fun v10 h3=>
 ak (aW v10 h3) fun v11 h4=>
 gtO (T.get fr (Pos.of 1)) fun v1=>ak (bK 5 [(.int .u8 0)] 1 [(0,1,v1)] h4) fun v13 h6=>
 ak (dQ 5 1 1 v11 v13 h6) fun v14 h7=>
 ak (aP v0 h7) fun v15 h8=>
 ak (aN 1 v15 h8) fun v16 h9=>
 ak (cZ 1 v16 v14 h9) fun _u10 h10=>
 Out.nor fr h10
def O9(fr:F)(h:Hp):Out:=
 Out.nor (T.set (some .iw) (Pos.of 4) fr) h
def SI:F→Hp→Out:=(aC Ph (aC Pg (aC Pe (aC O9 Out.ret))))
def alU:FuncId→Option Fun:=fun f=>match Nat.beq f 256 with|true=>some wC|false=>none
def alj:aJ:=fun id=>none
def jg:Fun:=gI Tryz.prog ah alD alU alj lf Tryz.f258
theorem aHN:fE Tryz.prog ah Tryz.f258.ntmps alD alU alj lf (codeOf Tryz.f258)=SI:=by kernel_rfl
theorem amg(x0 x1:V)(h:Hp):jg [x0,x1] h=bD Tryz.prog [.tmp 4] (SI (T.set (some x1) (Pos.of 1) (T.set (some x0) (Pos.of 0) T.nil)) h):=fK (by kernel_rfl) aHN (by kernel_rfl) h
theorem al9:aj Tryz.prog ah 258 jg:=eG aH (ai aHz aA) Tryz.func258 (by kernel_rfl)
def nN:Fun:=fun _ _=>.bad
theorem aHE:aj Tryz.prog ah 201 nN:=fun _ _ _ _ _ _ _ e=>by cases e
def alL:Nat→Bool:=fun t=>iy t [0,1,4,5,11,12,13,36,52,60,67,74,81,88]
def Rn(fr:F)(h:Hp):Out:=
 gtO (T.get fr (Pos.of 0)) fun v0=>ak (aP v0 h) fun v7 h1=>
 ak (aN 0 v7 h1) fun v8 h2=>
 ak (jg [v8,(.int .u8 34)] h2) fun v9 h3=>
 Out.nor fr h3
def Rl(fr:F)(h:Hp):Out:=
 gtO (T.get fr (Pos.of 1)) fun v1=>ak (fH 1 v1 h) fun v11 h1=>
 Out.nor (T.set (some (.int .i64 0)) (Pos.of 12) (T.set (some v11) (Pos.of 11) fr)) h1
def yV(fr:F)(h:Hp):Out:=
 gtO (T.get fr (Pos.of 12)) fun v12=>gtO (T.get fr (Pos.of 11)) fun v11=>ak (aO .lss .none v12 v11 h) fun v13 h0=>
 Out.nor (T.set (some v13) (Pos.of 13) fr) h0
def Rk(fr:F)(h:Hp):Out:=
 gtO (T.get fr (Pos.of 12)) fun v12=>Out.nor (T.set (some v12) (Pos.of 4) fr) h
def Rj(fr:F)(h:Hp):Out:=
 gtO (T.get fr (Pos.of 1)) fun v1=>gtO (T.get fr (Pos.of 4)) fun v4=>ak (bU v1 v4 h) fun v17 h2=>
 Out.nor (T.set (some v17) (Pos.of 5) fr) h2
def Ri(fr:F)(h:Hp):Out:=
 gtO (T.get fr (Pos.of 5)) fun v5=>ak (aO .eql .none v5 (.int .u8 34) h) fun v38 h1=>
 ifB v38 (Out.nor (T.set (some (.bool true)) (Pos.of 36) fr) h1) (ak (aO .eql .none v5 (.int .u8 92) h1) fun v41 h4=>
 Out.nor (T.set (some v41) (Pos.of 36) fr) h4)
def atN(fr:F)(h:Hp):Out:=
 gtO (T.get fr (Pos.of 0)) fun v0=>ak (aP v0 h) fun v44 h1=>
 ak (aN 0 v44 h1) fun v45 h2=>
 ak (jg [v45,(.int .u8 92)] h2) fun v46 h3=>
 Out.nor fr h3
def ak5(fr:F)(h:Hp):Out:=
 gtO (T.get fr (Pos.of 0)) fun v0=>ak (aP v0 h) fun v48 h1=>
 ak (aN 0 v48 h1) fun v49 h2=>
 gtO (T.get fr (Pos.of 5)) fun v5=>ak (jg [v49,v5] h2) fun v51 h4=>
 Out.nor fr h4
def Gz(fr:F)(h:Hp):Out:=
 gtO (T.get fr (Pos.of 5)) fun v5=>ak (aO .geq .none v5 (.int .u8 32) h) fun v54 h1=>
 Out.nor (T.set (some v54) (Pos.of 52) fr) h1
def Gy(fr:F)(h:Hp):Out:=
 gtO (T.get fr (Pos.of 0)) fun v0=>ak (aP v0 h) fun v56 h1=>
 ak (aN 0 v56 h1) fun v57 h2=>
 gtO (T.get fr (Pos.of 5)) fun v5=>ak (jg [v57,v5] h2) fun v59 h4=>
 Out.nor fr h4
def ak4(fr:F)(h:Hp):Out:=
 gtO (T.get fr (Pos.of 5)) fun v5=>ak (aO .eql .none v5 (.int .u8 8) h) fun v62 h1=>
 Out.nor (T.set (some v62) (Pos.of 60) fr) h1
def ak3(fr:F)(h:Hp):Out:=
 gtO (T.get fr (Pos.of 0)) fun v0=>ak (aP v0 h) fun v64 h1=>
 ak (aN 0 v64 h1) fun v65 h2=>
 ak (nN [v65,(.str [92,98])] h2) fun v66 h3=>
 Out.nor fr h3
def ak2(fr:F)(h:Hp):Out:=
 gtO (T.get fr (Pos.of 5)) fun v5=>ak (aO .eql .none v5 (.int .u8 9) h) fun v69 h1=>
 Out.nor (T.set (some v69) (Pos.of 67) fr) h1
def ak1(fr:F)(h:Hp):Out:=
 gtO (T.get fr (Pos.of 0)) fun v0=>ak (aP v0 h) fun v71 h1=>
 ak (aN 0 v71 h1) fun v72 h2=>
 ak (nN [v72,(.str [92,116])] h2) fun v73 h3=>
 Out.nor fr h3
def ak0(fr:F)(h:Hp):Out:=
 gtO (T.get fr (Pos.of 5)) fun v5=>ak (aO .eql .none v5 (.int .u8 10) h) fun v76 h1=>
 Out.nor (T.set (some v76) (Pos.of 74) fr) h1
def akZ(fr:F)(h:Hp):Out:=
 gtO (T.get fr (Pos.of 0)) fun v0=>ak (aP v0 h) fun v78 h1=>
 ak (aN 0 v78 h1) fun v79 h2=>
 ak (nN [v79,(.str [92,110])] h2) fun v80 h3=>
 Out.nor fr h3
def akY(fr:F)(h:Hp):Out:=
 gtO (T.get fr (Pos.of 5)) fun v5=>ak (aO .eql .none v5 (.int .u8 12) h) fun v83 h1=>
 Out.nor (T.set (some v83) (Pos.of 81) fr) h1
def akX(fr:F)(h:Hp):Out:=
 gtO (T.get fr (Pos.of 0)) fun v0=>ak (aP v0 h) fun v85 h1=>
 ak (aN 0 v85 h1) fun v86 h2=>
 ak (nN [v86,(.str [92,102])] h2) fun v87 h3=>
 Out.nor fr h3
def akW(fr:F)(h:Hp):Out:=
 gtO (T.get fr (Pos.of 5)) fun v5=>ak (aO .eql .none v5 (.int .u8 13) h) fun v90 h1=>
 Out.nor (T.set (some v90) (Pos.of 88) fr) h1
def akV(fr:F)(h:Hp):Out:=
 gtO (T.get fr (Pos.of 0)) fun v0=>ak (aP v0 h) fun v92 h1=>
 ak (aN 0 v92 h1) fun v93 h2=>
 ak (nN [v93,(.str [92,114])] h2) fun v94 h3=>
 Out.nor fr h3
def atQ(fr:F)(h:Hp):Out:=
 gtO (T.get fr (Pos.of 0)) fun v0=>ak (aP v0 h) fun v19 h1=>
 ak (aN 0 v19 h1) fun v20 h2=>
 ak (nN [v20,(.str [92,117,48,48])] h2) fun v21 h3=>
 Out.nor fr h3
def atP(fr:F)(h:Hp):Out:=
 gtO (T.get fr (Pos.of 0)) fun w0_0=>ak (aP w0_0 (aF 0 h)) fun v23 _=>
 ak (aN 0 v23 (aF 0 h)) fun v24 _=>
 gtO (T.get fr (Pos.of 5)) fun w3_5=>ak (aO .shr .none w3_5 (.int .u64 4) (aF 0 h)) fun v26 _=>
 ak (bU (.str [48,49,50,51,52,53,54,55,56,57,97,98,99,100,101,102]) v26 (aF 0 h)) fun v27 _=>
 ak (jg [v24,v27] (aF 0 h)) fun v28 h6=>
 Out.nor fr h6
def atO(fr:F)(h:Hp):Out:=
 gtO (T.get fr (Pos.of 0)) fun w0_0=>ak (aP w0_0 (aF 0 h)) fun v30 _=>
 ak (aN 0 v30 (aF 0 h)) fun v31 _=>
 gtO (T.get fr (Pos.of 5)) fun w3_5=>ak (aO .and .none w3_5 (.int .u8 15) (aF 0 h)) fun v33 _=>
 ak (bU (.str [48,49,50,51,52,53,54,55,56,57,97,98,99,100,101,102]) v33 (aF 0 h)) fun v34 _=>
 ak (jg [v31,v34] (aF 0 h)) fun v35 h6=>
 Out.nor fr h6
def Gx(fr:F)(h:Hp):Out:=
 gtO (T.get fr (Pos.of 12)) fun v12=>ak (aO .add .none v12 (.int .i64 1) h) fun v95 h0=>
 Out.nor (T.set (some v95) (Pos.of 12) fr) h0
def Gw(fr:F)(h:Hp):Out:=
 gtO (T.get fr (Pos.of 0)) fun v0=>ak (aP v0 h) fun v97 h1=>
 ak (aN 0 v97 h1) fun v98 h2=>
 ak (jg [v98,(.int .u8 34)] h2) fun v99 h3=>
 Out.nor fr h3
def zl:F→Hp→Out:=(aC yV (aC (bn (.tmp 13) Out.nor (Out.ex 0)) (aC (dU 1 (aC Rk (aC Rj (dU 2 (aC Ri (bn (.tmp 36) (aC atN ak5) (aC Gz (bn (.tmp 52) Gy (aC ak4 (bn (.tmp 60) ak3 (aC ak2 (bn (.tmp 67) ak1 (aC ak0 (bn (.tmp 74) akZ (aC akY (bn (.tmp 81) akX (aC akW (bn (.tmp 88) akV (aC atQ (aC atP atO)))))))))))))))))))) Gx)))
def SX:F→Hp→Out:=(aC Rn (aC (aC Rl (dU 0 (eU zl lf))) Gw))
def al2:FuncId→Option Fun:=fun f=>match Nat.beq f 258 with|true=>some jg|false=>match Nat.beq f 201 with|true=>some nN|false=>none
def als:aJ:=fun id=>match Nat.beq id 6 with|true=>some ([0,1,3,0,8,24,63],[(0,.pure),(1,.pure),(2,.pure),(3,.pure),(4,.pure),(5,.pure),(6,.heavy)])|false=>match Nat.beq id 7 with|true=>some ([0,1,3,0,8,24,63],[(0,.pure),(1,.pure),(2,.pure),(3,.pure),(4,.pure),(5,.pure),(6,.heavy)])|false=>none
def rJ:Fun:=gI Tryz.prog ah alL al2 als lf Tryz.f203
theorem aHV:fE Tryz.prog ah Tryz.f203.ntmps alL al2 als lf (codeOf Tryz.f203)=SX:=by kernel_rfl
theorem amn(x0 x1:V)(h:Hp):rJ [x0,x1] h=bD Tryz.prog [] (SX (T.set (some x1) (Pos.of 1) (T.set (some x0) (Pos.of 0) T.nil)) h):=fK (by kernel_rfl) aHV (by kernel_rfl) h
theorem aHD:aj Tryz.prog ah 203 rJ:=eG aH (ai al9 (ai aHE aA)) Tryz.func203 (by kernel_rfl)
def alK:Nat→Bool:=fun t=>iy t [0,1,4,5,6,13,23,34,39,44,49,54,59]
def Rh(fr:F)(h:Hp):Out:=
 Out.nor (T.set (some .af) (Pos.of 4) fr) h
def P9(fr:F)(h:Hp):Out:=
 gtO (T.get fr (Pos.of 0)) fun v0=>ak (bK 5 [(.int .u8 0)] 1 [(0,1,(.int .u8 34))] h) fun v8 h1=>
 ak (dQ 5 1 1 v0 v8 h1) fun v9 h2=>
 Out.nor (T.set (some v9) (Pos.of 0) fr) h2
def P8(fr:F)(h:Hp):Out:=
 Out.nor (T.set (some (.int .i64 0)) (Pos.of 5) fr) h
def yU(fr:F)(h:Hp):Out:=
 gtO (T.get fr (Pos.of 5)) fun v5=>gtO (T.get fr (Pos.of 1)) fun v1=>ak (fH 1 v1 h) fun v12 h2=>
 ak (aO .lss .none v5 v12 h2) fun v13 h3=>
 Out.nor (T.set (some v13) (Pos.of 13) fr) h3
def P6(fr:F)(h:Hp):Out:=
 gtO (T.get fr (Pos.of 1)) fun v1=>gtO (T.get fr (Pos.of 5)) fun v5=>ak (bU v1 v5 h) fun v18 h2=>
 Out.nor (T.set (some v18) (Pos.of 6) fr) h2
def PZ(fr:F)(h:Hp):Out:=
 gtO (T.get fr (Pos.of 6)) fun v6=>ak (aO .eql .none v6 (.int .u8 34) h) fun v25 h1=>
 ifB v25 (Out.nor (T.set (some (.bool true)) (Pos.of 23) fr) h1) (ak (aO .eql .none v6 (.int .u8 92) h1) fun v28 h4=>
 Out.nor (T.set (some v28) (Pos.of 23) fr) h4)
def atM(fr:F)(h:Hp):Out:=
 gtO (T.get fr (Pos.of 0)) fun v0=>gtO (T.get fr (Pos.of 6)) fun v6=>ak (bK 5 [(.int .u8 0),(.int .u8 0)] 2 [(0,1,(.int .u8 92)),(1,1,v6)] h) fun v32 h2=>
 ak (dQ 5 1 1 v0 v32 h2) fun v33 h3=>
 Out.nor (T.set (some v33) (Pos.of 0) fr) h3
def PY(fr:F)(h:Hp):Out:=
 gtO (T.get fr (Pos.of 6)) fun v6=>ak (aO .eql .none v6 (.int .u8 8) h) fun v36 h1=>
 Out.nor (T.set (some v36) (Pos.of 34) fr) h1
def akU(fr:F)(h:Hp):Out:=
 gtO (T.get fr (Pos.of 0)) fun v0=>ak (dQ 5 1 1 v0 (.str [92,98]) h) fun v38 h1=>
 Out.nor (T.set (some v38) (Pos.of 0) fr) h1
def Gv(fr:F)(h:Hp):Out:=
 gtO (T.get fr (Pos.of 6)) fun v6=>ak (aO .eql .none v6 (.int .u8 9) h) fun v41 h1=>
 Out.nor (T.set (some v41) (Pos.of 39) fr) h1
def akT(fr:F)(h:Hp):Out:=
 gtO (T.get fr (Pos.of 0)) fun v0=>ak (dQ 5 1 1 v0 (.str [92,116]) h) fun v43 h1=>
 Out.nor (T.set (some v43) (Pos.of 0) fr) h1
def Gu(fr:F)(h:Hp):Out:=
 gtO (T.get fr (Pos.of 6)) fun v6=>ak (aO .eql .none v6 (.int .u8 10) h) fun v46 h1=>
 Out.nor (T.set (some v46) (Pos.of 44) fr) h1
def akS(fr:F)(h:Hp):Out:=
 gtO (T.get fr (Pos.of 0)) fun v0=>ak (dQ 5 1 1 v0 (.str [92,110]) h) fun v48 h1=>
 Out.nor (T.set (some v48) (Pos.of 0) fr) h1
def Gt(fr:F)(h:Hp):Out:=
 gtO (T.get fr (Pos.of 6)) fun v6=>ak (aO .eql .none v6 (.int .u8 12) h) fun v51 h1=>
 Out.nor (T.set (some v51) (Pos.of 49) fr) h1
def akR(fr:F)(h:Hp):Out:=
 gtO (T.get fr (Pos.of 0)) fun v0=>ak (dQ 5 1 1 v0 (.str [92,102]) h) fun v53 h1=>
 Out.nor (T.set (some v53) (Pos.of 0) fr) h1
def Gs(fr:F)(h:Hp):Out:=
 gtO (T.get fr (Pos.of 6)) fun v6=>ak (aO .eql .none v6 (.int .u8 13) h) fun v56 h1=>
 Out.nor (T.set (some v56) (Pos.of 54) fr) h1
def akQ(fr:F)(h:Hp):Out:=
 gtO (T.get fr (Pos.of 0)) fun v0=>ak (dQ 5 1 1 v0 (.str [92,114]) h) fun v58 h1=>
 Out.nor (T.set (some v58) (Pos.of 0) fr) h1
def Gq(fr:F)(h:Hp):Out:=
 gtO (T.get fr (Pos.of 6)) fun v6=>ak (aO .lss .none v6 (.int .u8 32) h) fun v61 h1=>
 Out.nor (T.set (some v61) (Pos.of 59) fr) h1
def akP(fr:F)(h:Hp):Out:=
 gtO (T.get fr (Pos.of 0)) fun v0=>ak (dQ 5 1 1 v0 (.str [92,117,48,48]) h) fun v63 h1=>
 Out.nor (T.set (some v63) (Pos.of 0) fr) h1
def akO(fr:F)(h:Hp):Out:=
 gtO (T.get fr (Pos.of 0)) fun w0_0=>gtO (T.get fr (Pos.of 6)) fun w1_6=>ak (aO .quo .none w1_6 (.int .u8 16) (aF 1 h)) fun v66 _=>
 ak (bU (.str [48,49,50,51,52,53,54,55,56,57,97,98,99,100,101,102]) v66 (aF 1 h)) fun v67 _=>
 gtO (T.get fr (Pos.of 6)) fun w4_6=>ak (aO .rem .none w4_6 (.int .u8 16) (aF 1 h)) fun v69 _=>
 ak (bU (.str [48,49,50,51,52,53,54,55,56,57,97,98,99,100,101,102]) v69 (aF 1 h)) fun v70 _=>
 Es (gJ 5 [(.int .u8 0),(.int .u8 0)] 2 [(0,1,v67),(1,1,v70)]) fun ob7 mk7=>
 ak (dQ 5 1 1 w0_0 (mk7 (Hp.next h)) (Hp.put (aF 1 h) (Hp.next h) (some ob7))) fun v72 h8=>
 Out.nor (T.set (some v72) (Pos.of 0) fr) h8
def P5(fr:F)(h:Hp):Out:=
 gtO (T.get fr (Pos.of 0)) fun v0=>gtO (T.get fr (Pos.of 6)) fun v6=>ak (bK 5 [(.int .u8 0)] 1 [(0,1,v6)] h) fun v21 h2=>
 ak (dQ 5 1 1 v0 v21 h2) fun v22 h3=>
 Out.nor (T.set (some v22) (Pos.of 0) fr) h3
def P7(fr:F)(h:Hp):Out:=
 gtO (T.get fr (Pos.of 5)) fun v5=>ak (aO .add .none v5 (.int .i64 1) h) fun v15 h1=>
 Out.nor (T.set (some v15) (Pos.of 5) fr) h1
def Gp(fr:F)(h:Hp):Out:=
 gtO (T.get fr (Pos.of 0)) fun v0=>ak (bK 5 [(.int .u8 0)] 1 [(0,1,(.int .u8 34))] h) fun v74 h1=>
 ak (dQ 5 1 1 v0 v74 h1) fun v75 h2=>
 Out.nor (T.set (some v75) (Pos.of 4) fr) h2
def zk:F→Hp→Out:=(aC (aC yU (bn (.tmp 13) Out.nor (Out.ex 0))) (aC (dU 1 (aC P6 (dU 2 (aC PZ (bn (.tmp 23) atM (aC PY (bn (.tmp 34) akU (aC Gv (bn (.tmp 39) akT (aC Gu (bn (.tmp 44) akS (aC Gt (bn (.tmp 49) akR (aC Gs (bn (.tmp 54) akQ (aC Gq (bn (.tmp 59) (aC akP akO) P5))))))))))))))))) P7))
def SV:F→Hp→Out:=(aC Rh (aC P9 (aC (aC P8 (dU 0 (eU zk lf))) (aC Gp Out.ret))))
def al1:FuncId→Option Fun:=fun f=>none
def alr:aJ:=fun id=>match Nat.beq id 21 with|true=>some ([0,0,2,6,0,16,48,126,255,511],[(0,.pure),(1,.pure),(2,.pure),(3,.pure),(4,.pure),(5,.pure),(6,.pure),(7,.alloc),(8,.heavy),(9,.pure)])|false=>none
def rH:Fun:=gI Tryz.prog ah alK al1 alr lf Tryz.f222
theorem aHU:fE Tryz.prog ah Tryz.f222.ntmps alK al1 alr lf (codeOf Tryz.f222)=SV:=by kernel_rfl
theorem amm(x0 x1:V)(h:Hp):rH [x0,x1] h=bD Tryz.prog [.tmp 4] (SV (T.set (some x1) (Pos.of 1) (T.set (some x0) (Pos.of 0) T.nil)) h):=fK (by kernel_rfl) aHU (by kernel_rfl) h
theorem aHC:aj Tryz.prog ah 222 rH:=eG aH aA Tryz.func222 (by kernel_rfl)
end Go.Proofs.Jm
