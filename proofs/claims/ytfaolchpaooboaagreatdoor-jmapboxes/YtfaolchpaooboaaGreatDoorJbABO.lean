/- Part of the claim: facts that its last text uses. No conditions. -/
import Derived.Test.YtfaolchpaooboaaGreatDoorJbABN
import Derived.Test.YtfaolchpaooboaaGreatDoorJbAR
import Derived.KernelRfl
set_option linter.all false
noncomputable section
namespace Go.Proofs.Jm
open Go Go.Proofs Go.Vm
set_option maxRecDepth 100000
set_option maxHeartbeats 4000000
def avx:Nat→Bool:=fun t=>iy t [0,1,4,5,6,7,8,9,10,11,12,13,14,16,19,20,22,23,32,39,44,63,78,134,137,153]
def Y3(fr:F)(h:Hp):Out:=
 Out.nor (T.set (some (.bool false)) (Pos.of 4) fr) h
def Y2(fr:F)(h:Hp):Out:=
 ak (agH [.af] h) fun v25 h0=>
 Out.nor (T.set (some v25) (Pos.of 5) fr) h0
def Y1(fr:F)(h:Hp):Out:=
 ak (Ii [] h) fun v26 h0=>
 Out.nor (T.set (some v26) (Pos.of 6) fr) h0
def Y0(fr:F)(h:Hp):Out:=
 gtO (T.get fr (Pos.of 5)) fun v5=>ak (aO .eql (.ptr 16) v5 .fJ h) fun v28 h1=>
 ifB v28 (Out.nor (T.set (some (.bool true)) (Pos.of 32) fr) h1) (gtO (T.get fr (Pos.of 6)) fun v6=>ak (aO .eql (.ptr 6) v6 .fJ h1) fun v31 h4=>
 Out.nor (T.set (some v31) (Pos.of 32) fr) h4)
def YZ(fr:F)(h:Hp):Out:=
 Out.nor (T.set (some (.bool false)) (Pos.of 4) fr) h
def ru(fr:F)(h:Hp):Out:=
 gtO (T.get fr (Pos.of 0)) fun v0=>ak (dh .i64 v0 h) fun v34 h1=>
 ak (aO .rem .none v34 (.int .i64 15) h1) fun v35 h2=>
 ak (aO .add .none (.int .i64 1) v35 h2) fun v36 h3=>
 Out.nor (T.set (some v36) (Pos.of 7) fr) h3
def YX(fr:F)(h:Hp):Out:=
 Out.nor (T.set (some .af) (Pos.of 8) fr) h
def YW(fr:F)(h:Hp):Out:=
 Out.nor (T.set (some (.int .i64 0)) (Pos.of 9) fr) h
def ay3(fr:F)(h:Hp):Out:=
 gtO (T.get fr (Pos.of 9)) fun v9=>gtO (T.get fr (Pos.of 7)) fun v7=>ak (aO .lss .none v9 v7 h) fun v39 h2=>
 Out.nor (T.set (some v39) (Pos.of 39) fr) h2
def ati(fr:F)(h:Hp):Out:=
 ak (O0 [] h) fun v42 h0=>
 ak (yE 29 [(.int .i64 0),(.int .i64 0),(.str []),.af,.af] h0) fun v10 h1=>
 ak (cZ 5 v10 v42 h1) fun _u2 h2=>
 Out.nor (T.set (some v10) (Pos.of 10) fr) h2
def ath(fr:F)(h:Hp):Out:=
 gtO (T.get fr (Pos.of 9)) fun v9=>ak (aO .gtr .none v9 (.int .i64 0) h) fun v44 h1=>
 Out.nor (T.set (some v44) (Pos.of 44) fr) h1
def atg(fr:F)(h:Hp):Out:=
 gtO (T.get fr (Pos.of 9)) fun v9=>ak (aO .sub .none v9 (.int .i64 1) h) fun v46 h1=>
 ak (rD [v46] h1) fun v47 h2=>
 ak (aO .add .none (.str [35,99]) v47 h2) fun v48 h3=>
 ak (jP [v48] h3) fun v49 h4=>
 gtO (T.get fr (Pos.of 10)) fun v10=>ak (cZ 5 v10 v49 h4) fun _u5 h5=>
 Out.nor fr h5
def atf(fr:F)(h:Hp):Out:=
 gtO (T.get fr (Pos.of 9)) fun w1_9=>ak (rD [w1_9] (aF 2 h)) fun v52 h2=>
 ak (aO .add .none (.str [99]) v52 h2) fun v53 _=>
 ak (jP [v53] h2) fun v54 h4=>
 ak (jP [(.str [110,97,109,101])] h4) fun v55 h5=>
 ak (jP [(.str [110])] h5) fun v56 h6=>
 ak (jP [(.str [112,97,114,101,110,116,73,100])] h6) fun v57 h7=>
 gtO (T.get fr (Pos.of 10)) fun w8_10=>ak (lQ 5 w8_10 h7) fun v58 _=>chk (fun h=>lQ 5 w8_10 h) v58 (
 Es (gJ 29 [(.int .i64 0),(.int .i64 0),(.str []),.af,.af,(.int .i64 0),(.int .i64 0),(.str []),.af,.af,(.int .i64 0),(.int .i64 0),(.str []),.af,.af,(.int .i64 0),(.int .i64 0),(.str []),.af,.af] 4 [(0,5,v55),(5,5,v56),(10,5,v57),(15,5,v58)]) fun ob9 mk9=>
 ak (ql [(mk9 (Hp.next h))] (Hp.put h7 (Hp.next h) (some ob9))) fun v60 h10=>
 gtO (T.get fr (Pos.of 8)) fun w0_8=>Es (gJ 29 [(.int .i64 0),(.int .i64 0),(.str []),.af,.af,(.int .i64 0),(.int .i64 0),(.str []),.af,.af] 2 [(0,5,v54),(5,5,v60)]) fun ob11 mk11=>
 ak (dQ 29 5 80 w0_8 (mk11 (Pos.succ (Hp.next h))) (Hp.put h10 (Pos.succ (Hp.next h)) (some ob11))) fun v62 h12=>
 Out.nor (T.set (some v62) (Pos.of 8) fr) h12) 5 [h6,h5,h4,h2,(aF 2 h)]
def ay2(fr:F)(h:Hp):Out:=
 gtO (T.get fr (Pos.of 9)) fun v9=>ak (aO .add .none v9 (.int .i64 1) h) fun v41 h1=>
 Out.nor (T.set (some v41) (Pos.of 9) fr) h1
def OI(fr:F)(h:Hp):Out:=
 Out.nor (T.set (some (.str [49])) (Pos.of 11) fr) h
def OH(fr:F)(h:Hp):Out:=
 gtO (T.get fr (Pos.of 1)) fun v1=>Out.nor (T.set (some v1) (Pos.of 63) fr) h
def OG(fr:F)(h:Hp):Out:=
 Out.nor (T.set (some (.str [48])) (Pos.of 11) fr) h
def OE(fr:F)(h:Hp):Out:=
 gtO (T.get fr (Pos.of 6)) fun v6=>gtO (T.get fr (Pos.of 5)) fun v5=>ak (jP [(.str [105,102,73,110,83,116,97,116,101])] h) fun v67 h2=>
 gtO (T.get fr (Pos.of 11)) fun v11=>ak (jP [v11] h2) fun v69 h4=>
 ak (jP [(.str [99,114,101,97,116,101])] h4) fun v70 h5=>
 gtO (T.get fr (Pos.of 8)) fun v8=>ak (ql [v8] h5) fun v72 h7=>
 ak (bK 29 [(.int .i64 0),(.int .i64 0),(.str []),.af,.af,(.int .i64 0),(.int .i64 0),(.str []),.af,.af,(.int .i64 0),(.int .i64 0),(.str []),.af,.af,(.int .i64 0),(.int .i64 0),(.str []),.af,.af] 4 [(0,5,v67),(5,5,v69),(10,5,v70),(15,5,v72)] h7) fun v73 h8=>
 ak (ql [v73] h8) fun v74 h9=>
 ak (DJ [v6,v5,(.str [77,97,105,108,98,111,120,47,115,101,116]),v74] h9) fun v75 h10=>
 ak (bM 0 v75 h10) fun v76 h12=>
 ak (bM 1 v75 h12) fun v77 h13=>
 ak (yE 29 [(.int .i64 0),(.int .i64 0),(.str []),.af,.af] h13) fun v13 h14=>
 ak (cZ 5 v13 v77 h14) fun _u16 h16=>
 Out.nor (T.set (some v76) (Pos.of 12) (T.set (some v13) (Pos.of 13) fr)) h16
def OD(fr:F)(h:Hp):Out:=
 gtO (T.get fr (Pos.of 1)) fun v1=>Out.nor (T.set (some v1) (Pos.of 78) fr) h
def OC(fr:F)(h:Hp):Out:=
 gtO (T.get fr (Pos.of 13)) fun v13=>ak (lQ 5 v13 h) fun v80 h0=>
 ak (Ih [v80,(.str [116,121,112,101])] h0) fun v81 h1=>
 ak (bM 0 v81 h1) fun v82 h3=>
 ak (bM 1 v81 h3) fun v83 h4=>
 Out.nor (T.set (some v82) (Pos.of 14) fr) h4
def OB(fr:F)(h:Hp):Out:=
 gtO (T.get fr (Pos.of 12)) fun v12=>ak (aO .eql .none v12 (.str [101,114,114,111,114]) h) fun v85 h1=>
 ifB v85 (gtO (T.get fr (Pos.of 14)) fun v14=>ak (aO .eql .none v14 (.str [115,116,97,116,101,77,105,115,109,97,116,99,104]) h1) fun v88 h4=>
 ifB v88 (gtO (T.get fr (Pos.of 5)) fun v5=>ak (rC [v5] h4) fun v92 h8=>
 ak (aO .eql .none v92 (.int .i64 1) h8) fun v93 h9=>
 ifB v93 (ak (xR [] h9) fun v96 h12=>
 Out.nor (T.set (some v96) (Pos.of 4) fr) h12) (Out.nor (T.set (some (.bool false)) (Pos.of 4) fr) h9)) (Out.nor (T.set (some (.bool false)) (Pos.of 4) fr) h4)) (Out.nor (T.set (some (.bool false)) (Pos.of 4) fr) h1)
def OA(fr:F)(h:Hp):Out:=
 gtO (T.get fr (Pos.of 13)) fun v13=>ak (lQ 5 v13 h) fun v99 h0=>
 ak (pz [v99,(.str [99,114,101,97,116,101,100])] h0) fun v100 h1=>
 ak (bM 0 v100 h1) fun v101 h3=>
 ak (bM 1 v100 h3) fun v102 h4=>
 ak (yE 29 [(.int .i64 0),(.int .i64 0),(.str []),.af,.af] h4) fun v16 h5=>
 ak (cZ 5 v16 v101 h5) fun _u6 h6=>
 Out.nor (T.set (some v16) (Pos.of 16) fr) h6
def Oz(fr:F)(h:Hp):Out:=
 gtO (T.get fr (Pos.of 6)) fun v6=>gtO (T.get fr (Pos.of 5)) fun v5=>ak (ql [.af] h) fun v106 h2=>
 ak (DJ [v6,v5,(.str [77,97,105,108,98,111,120,47,103,101,116]),v106] h2) fun v107 h3=>
 ak (bM 0 v107 h3) fun v108 h5=>
 ak (bM 1 v107 h5) fun v109 h6=>
 ak (yE 29 [(.int .i64 0),(.int .i64 0),(.str []),.af,.af] h6) fun v19 h7=>
 ak (cZ 5 v19 v109 h7) fun _u9 h9=>
 Out.nor (T.set (some v19) (Pos.of 19) fr) h9
def Oy(fr:F)(h:Hp):Out:=
 gtO (T.get fr (Pos.of 19)) fun v19=>ak (lQ 5 v19 h) fun v111 h0=>
 ak (pz [v111,(.str [108,105,115,116])] h0) fun v112 h1=>
 ak (bM 0 v112 h1) fun v113 h3=>
 ak (bM 1 v112 h3) fun v114 h4=>
 ak (yE 29 [(.int .i64 0),(.int .i64 0),(.str []),.af,.af] h4) fun v20 h5=>
 ak (cZ 5 v20 v113 h5) fun _u6 h6=>
 Out.nor (T.set (some v20) (Pos.of 20) fr) h6
def Ox(fr:F)(h:Hp):Out:=
 gtO (T.get fr (Pos.of 16)) fun v16=>ak (aN 4 v16 h) fun v115 h0=>
 ak (aW v115 h0) fun v116 h1=>
 ak (fH 2 v116 h1) fun v117 h2=>
 gtO (T.get fr (Pos.of 7)) fun v7=>ak (aO .neq .none v117 v7 h2) fun v119 h4=>
 ifB v119 (Out.nor (T.set (some (.bool true)) (Pos.of 134) fr) h4) (gtO (T.get fr (Pos.of 20)) fun v20=>ak (aN 4 v20 h4) fun v121 h6=>
 ak (aW v121 h6) fun v122 h7=>
 ak (fH 2 v122 h7) fun v123 h8=>
 ak (aO .add .none v7 (.int .i64 1) h8) fun v125 h10=>
 ak (aO .neq .none v123 v125 h10) fun v126 h11=>
 ifB v126 (Out.nor (T.set (some (.bool true)) (Pos.of 134) fr) h11) (gtO (T.get fr (Pos.of 5)) fun v5=>ak (rC [v5] h11) fun v130 h15=>
 ak (aO .add .none (.int .i64 1) v7 h15) fun v132 h17=>
 ak (aO .neq .none v130 v132 h17) fun v133 h18=>
 Out.nor (T.set (some v133) (Pos.of 134) fr) h18))
def Ov(fr:F)(h:Hp):Out:=
 Out.nor (T.set (some (.bool false)) (Pos.of 4) fr) h
def Ou(fr:F)(h:Hp):Out:=
 Out.nor (T.set (some (.int .i64 2)) (Pos.of 22) fr) h
def ate(fr:F)(h:Hp):Out:=
 gtO (T.get fr (Pos.of 22)) fun v22=>gtO (T.get fr (Pos.of 7)) fun v7=>ak (aO .leq .none v22 v7 h) fun v137 h2=>
 Out.nor (T.set (some v137) (Pos.of 137) fr) h2
def atc(fr:F)(h:Hp):Out:=
 gtO (T.get fr (Pos.of 20)) fun v20=>ak (aN 4 v20 h) fun v141 h0=>
 ak (aW v141 h0) fun v142 h1=>
 gtO (T.get fr (Pos.of 22)) fun v22=>ak (Ad 5 v142 v22 h1) fun v144 h3=>
 ak (lQ 5 v144 h3) fun v145 h4=>
 ak (Ih [v145,(.str [112,97,114,101,110,116,73,100])] h4) fun v146 h5=>
 ak (bM 0 v146 h5) fun v147 h7=>
 ak (bM 1 v146 h7) fun v148 h8=>
 Out.nor (T.set (some v147) (Pos.of 23) fr) h8
def atb(fr:F)(h:Hp):Out:=
 gtO (T.get fr (Pos.of 23)) fun v23=>gtO (T.get fr (Pos.of 22)) fun v22=>ak (rD [v22] h) fun v151 h2=>
 ak (aO .add .none (.str [98]) v151 h2) fun v152 h3=>
 ak (aO .neq .none v23 v152 h3) fun v153 h4=>
 Out.nor (T.set (some v153) (Pos.of 153) fr) h4
def ata(fr:F)(h:Hp):Out:=
 Out.nor (T.set (some (.bool false)) (Pos.of 4) fr) h
def atd(fr:F)(h:Hp):Out:=
 gtO (T.get fr (Pos.of 22)) fun v22=>ak (aO .add .none v22 (.int .i64 1) h) fun v139 h1=>
 Out.nor (T.set (some v139) (Pos.of 22) fr) h1
def Ot(fr:F)(h:Hp):Out:=
 ak (xR [] h) fun v154 h0=>
 Out.nor (T.set (some v154) (Pos.of 4) fr) h0
def Zp:F→Hp→Out:=(aC (aC ay3 (bn (.tmp 39) Out.nor (Out.ex 0))) (aC (dU 1 (aC ati (aC (aC ath (bn (.tmp 44) atg Out.nor)) atf))) ay2))
def OO:F→Hp→Out:=(aC (aC ate (bn (.tmp 137) Out.nor (Out.ex 2))) (aC (dU 3 (aC atc (aC atb (bn (.tmp 153) (aC ata Out.ret) Out.nor)))) atd))
def agE:F→Hp→Out:=(aC Y3 (aC Y2 (aC Y1 (aC (aC Y0 (bn (.tmp 32) (aC YZ Out.ret) Out.nor)) (aC ru (aC YX (aC (aC YW (dU 0 (eU Zp lf))) (aC OI (aC (aC OH (bn (.tmp 63) OG Out.nor)) (aC OE (aC (aC OD (bn (.tmp 78) (aC OC (aC OB Out.ret)) Out.nor)) (aC OA (aC Oz (aC Oy (aC (aC Ox (bn (.tmp 134) (aC Ov Out.ret) Out.nor)) (aC (aC Ou (dU 2 (eU OO lf))) (aC Ot Out.ret)))))))))))))))))
def avy:FuncId→Option Fun:=fun f=>match Nat.beq f 5 with|true=>some agH|false=>match Nat.beq f 6 with|true=>some Ii|false=>match Nat.beq f 14 with|true=>some O0|false=>match Nat.beq f 15 with|true=>some rD|false=>match Nat.beq f 10 with|true=>some jP|false=>match Nat.beq f 8 with|true=>some ql|false=>match Nat.beq f 7 with|true=>some DJ|false=>match Nat.beq f 9 with|true=>some Ih|false=>match Nat.beq f 16 with|true=>some rC|false=>match Nat.beq f 12 with|true=>some xR|false=>match Nat.beq f 17 with|true=>some pz|false=>none
def avw:aJ:=fun id=>match Nat.beq id 13 with|true=>some ([0,0,2,6,14,30,62,126,0,510,1022,2046,4095,8191],[(1,.pure),(2,.heavy),(3,.pure),(4,.heavy),(5,.heavy),(6,.heavy),(7,.heavy),(8,.read 5),(9,.alloc),(10,.heavy),(0,.pure),(11,.alloc),(12,.heavy),(13,.pure)])|false=>none
def agI:Fun:=gI Tryz.prog ah avx avy avw lf Tryz.f4
theorem aNh:fE Tryz.prog ah Tryz.f4.ntmps avx avy avw lf (codeOf Tryz.f4)=agE:=by kernel_rfl
theorem atj(x0 x1:V)(h:Hp):agI [x0,x1] h=bD Tryz.prog [.tmp 4] (agE (T.set (some x1) (Pos.of 1) (T.set (some x0) (Pos.of 0) T.nil)) h):=fK (by kernel_rfl) aNh (by kernel_rfl) h
theorem aNg:aj Tryz.prog ah 4 agI:=eG aH (ai aNf (ai avA (ai aHd (ai ako (ai OM (ai agF (ai aGS (ai aNe (ai OL (ai aDx (ai DI aA))))))))))) Tryz.func4 (by kernel_rfl)
end Go.Proofs.Jm
noncomputable section
namespace Go.Proofs.Jm
open Go Go.Proofs Go.Vm
set_option maxRecDepth 100000
set_option maxHeartbeats 4000000
def BrF(o:Option (F×Hp)):F:=match o with|some p=>p.1|none=>T.nil
def BrH(o:Option (F×Hp)):Hp:=match o with|some p=>p.2|none=>h0 0
def BC:Ctx:=(.seqR Y3 (.seqR Y2 (.seqR Y1 (.seqR (aC Y0 (bn (.tmp 32) (aC YZ Out.ret) Out.nor)) (.seqL .hole (aC YX (aC (aC YW (dU 0 (eU Zp lf))) (aC OI (aC (aC OH (bn (.tmp 63) OG Out.nor)) (aC OE (aC (aC OD (bn (.tmp 78) (aC OC (aC OB Out.ret)) Out.nor)) (aC OA (aC Oz (aC Oy (aC (aC Ox (bn (.tmp 134) (aC Ov Out.ret) Out.nor)) (aC (aC Ou (dU 2 (eU OO lf))) (aC Ot Out.ret)))))))))))))))))
theorem BD:agE=BC.fill ru:=rfl
def Bfr(w:Bool)(x:V):F:=T.set (some (.bool w)) (Pos.of 1) (T.set (some x) (Pos.of 0) T.nil)
def BP(w:Bool)(x:V):Option (F×Hp):=BC.reach (Bfr w x) (h0 ah)
def BT(k:Nat)(w:Bool)(x:V):Out:=BC.after (Out.nor (T.set (some (.int .i64 ((k+1:Nat):Int))) (Pos.of 7) (BrF (BP w x))) (BrH (BP w x)))
theorem aUk(x:V):BP true x=some (BrF (BP true x),BrH (BP true x)):=by kernel_rfl
theorem aUh(x:V):(BrF (BP true x)).get (Pos.of 0)=some x:=by kernel_rfl
theorem aUl(x:V):BP false x=some (BrF (BP false x),BrH (BP false x)):=by kernel_rfl
theorem aUi(x:V):(BrF (BP false x)).get (Pos.of 0)=some x:=by kernel_rfl
end Go.Proofs.Jm
