/- Part of the value machine, or of a walk by it: lemmas that the claim's last text uses. No conditions. -/
import Derived.Test.YtnlbcbjgejpanaaGreatDoorStTkB
set_option linter.unusedVariables false
set_option linter.unusedSimpArgs false
set_option linter.unnecessarySimpa false
noncomputable section
namespace Go.Proofs.ImT
open Go Go.Proofs Go.Vm
set_option linter.unusedVariables false
set_option linter.unusedSimpArgs false
set_option maxRecDepth 100000
set_option maxHeartbeats 4000000
theorem awake_run : isT (TryF5 [] (h0 TryG)) = true := by kernel_rfl
def TryF5c : Fun := constB true
theorem Tryc5c : CallOk Tryz.prog TryG 5 TryF5c := (isT_ok awake_run).elim fun h e => constB_ok Tryc5 e
def TryF19 : Fun := fun _ _ => .bad
theorem Tryc19 : CallOk Tryz.prog TryG 19 TryF19 := fun _ _ _ _ _ _ _ e => by cases e
def TryF97 : Fun := fun _ _ => .bad
theorem Tryc97 : CallOk Tryz.prog TryG 97 TryF97 := fun _ _ _ _ _ _ _ e => by cases e
def TryF106 : Fun := fun _ _ => .bad
theorem Tryc106 : CallOk Tryz.prog TryG 106 TryF106 := fun _ _ _ _ _ _ _ e => by cases e
def TryF118 : Fun := fun _ _ => .bad
theorem Tryc118 : CallOk Tryz.prog TryG 118 TryF118 := fun _ _ _ _ _ _ _ e => by cases e
def TryF121 : Fun := fun _ _ => .bad
theorem Tryc121 : CallOk Tryz.prog TryG 121 TryF121 := fun _ _ _ _ _ _ _ e => by cases e
def TryF126 : Fun := fun _ _ => .bad
theorem Tryc126 : CallOk Tryz.prog TryG 126 TryF126 := fun _ _ _ _ _ _ _ e => by cases e
def Tryk122p : Nat → Bool := fun t => memN t [0, 1, 2, 3, 4, 10, 11, 12, 13, 14, 15, 16, 17, 18, 20, 22, 33, 40, 48, 51, 76, 107, 111, 112, 113, 114]
def Tryr122p_0 (fr : F) (h : Hp) : Out :=
  Out.nor (T.set (some (.int .i64 0)) (Pos.of 11) (T.set (some (.int .i64 0)) (Pos.of 10) fr)) h
def Tryr122p_1 (fr : F) (h : Hp) : Out :=
  gtO (T.get fr (Pos.of 0)) fun v0 => bndO (oBin .eql (.ptr 16) v0 .nilp h) fun v22 h1 =>
  Out.nor (T.set (some v22) (Pos.of 22) fr) h1
def Tryr122p_2 (fr : F) (h : Hp) : Out :=
  Out.nor (T.set (some (.int .i64 7)) (Pos.of 11) (T.set (some (.int .i64 0)) (Pos.of 10) fr)) h
def Tryr122p_3 (fr : F) (h : Hp) : Out :=
  gtO (T.get fr (Pos.of 1)) fun v1 => bndO (oLenK 2 v1 h) fun v24 h1 =>
  bndO (oBin .eql .none v24 (.int .i64 0) h1) fun v25 h2 =>
  ifB v25 (Out.nor (T.set (some (.bool true)) (Pos.of 33) fr) h2) (gtO (T.get fr (Pos.of 3)) fun v3 => bndO (oBin .lss .none v3 (.int .i64 0) h2) fun v28 h5 =>
  ifB v28 (Out.nor (T.set (some (.bool true)) (Pos.of 33) fr) h5) (bndO (oBin .gtr .none v3 (.int .i64 253402300799) h5) fun v32 h9 =>
  Out.nor (T.set (some v32) (Pos.of 33) fr) h9))
def Tryr122p_4 (fr : F) (h : Hp) : Out :=
  Out.nor (T.set (some (.int .i64 1)) (Pos.of 11) (T.set (some (.int .i64 0)) (Pos.of 10) fr)) h
def Tryr122p_5 (fr : F) (h : Hp) : Out :=
  gtO (T.get fr (Pos.of 2)) fun v2 => bndO (TryF237 [v2] h) fun v36 h1 =>
  bndO (oExtract 0 v36 h1) fun v37 h3 =>
  bndO (oExtract 1 v36 h3) fun v38 h4 =>
  Out.nor (T.set (some v38) (Pos.of 13) (T.set (some v37) (Pos.of 12) fr)) h4
def Tryr122p_6 (fr : F) (h : Hp) : Out :=
  gtO (T.get fr (Pos.of 13)) fun v13 => bndO (oBin .neq .none v13 (.int .i64 0) h) fun v40 h1 =>
  Out.nor (T.set (some v40) (Pos.of 40) fr) h1
def Tryr122p_7 (fr : F) (h : Hp) : Out :=
  gtO (T.get fr (Pos.of 13)) fun v13 => Out.nor (T.set (some v13) (Pos.of 11) (T.set (some (.int .i64 0)) (Pos.of 10) fr)) h
def Tryr122p_8 (fr : F) (h : Hp) : Out :=
  gtO (T.get fr (Pos.of 0)) fun v0 => gtO (T.get fr (Pos.of 1)) fun v1 => bndO (TryF238 [v0, v1] h) fun v45 h2 =>
  bndO (oExtract 0 v45 h2) fun v46 h4 =>
  bndO (oExtract 1 v45 h4) fun v47 h5 =>
  Out.nor (T.set (some v47) (Pos.of 15) (T.set (some v46) (Pos.of 14) fr)) h5
def Tryr122p_9 (fr : F) (h : Hp) : Out :=
  gtO (T.get fr (Pos.of 15)) fun v15 => bndO (oUn .not v15 h) fun v50 h1 =>
  Out.nor (T.set (some v50) (Pos.of 48) fr) h1
def Tryr122p_10 (fr : F) (h : Hp) : Out :=
  Out.nor (T.set (some (.int .i64 6)) (Pos.of 11) (T.set (some (.int .i64 0)) (Pos.of 10) fr)) h
def Tryr122p_11 (fr : F) (h : Hp) : Out :=
  gtO (T.get fr (Pos.of 0)) fun w0_0 => bndO (oNilCheck w0_0 (bumpH 0 h)) fun v53 _ =>
  bndO (oFieldAddr 11 v53 (bumpH 0 h)) fun v54 _ =>
  bndO (oLoad1 v54 (bumpH 0 h)) fun v55 _ =>
  bndO (oLenK 2 v55 (bumpH 0 h)) fun v56 _ =>
  gtO (T.get fr (Pos.of 0)) fun w5_0 => bndO (oNilCheck w5_0 (bumpH 0 h)) fun v58 _ =>
  bndO (oFieldAddr 0 v58 (bumpH 0 h)) fun v59 _ =>
  bndO (oFieldAddr 2 v59 (bumpH 0 h)) fun v60 _ =>
  bndO (oLoad1 v60 (bumpH 0 h)) fun v61 _ =>
  bndO (oBin .geq .none v56 v61 (bumpH 0 h)) fun v62 _ =>
  Out.nor (T.set (some v62) (Pos.of 51) fr) (bumpH 0 h)
def Tryr122p_12 (fr : F) (h : Hp) : Out :=
  gtO (T.get fr (Pos.of 4)) fun w0_4 => bndO (oLenK 1 w0_4 (bumpH 0 h)) fun v64 _ =>
  gtO (T.get fr (Pos.of 0)) fun w2_0 => bndO (oNilCheck w2_0 (bumpH 0 h)) fun v66 _ =>
  bndO (oFieldAddr 0 v66 (bumpH 0 h)) fun v67 _ =>
  bndO (oFieldAddr 4 v67 (bumpH 0 h)) fun v68 _ =>
  bndO (oLoad1 v68 (bumpH 0 h)) fun v69 _ =>
  gtO (T.get fr (Pos.of 0)) fun w7_0 => bndO (oNilCheck w7_0 (bumpH 0 h)) fun v71 _ =>
  bndO (oFieldAddr 15 v71 (bumpH 0 h)) fun v72 _ =>
  bndO (oLoad1 v72 (bumpH 0 h)) fun v73 _ =>
  bndO (oBin .sub .none v69 v73 (bumpH 0 h)) fun v74 _ =>
  bndO (oBin .gtr .none v64 v74 (bumpH 0 h)) fun v75 _ =>
  Out.nor (T.set (some v75) (Pos.of 51) fr) (bumpH 0 h)
def Tryr122p_13 (fr : F) (h : Hp) : Out :=
  Out.nor (T.set (some (.int .i64 8)) (Pos.of 11) (T.set (some (.int .i64 0)) (Pos.of 10) fr)) h
def Tryr122p_14 (fr : F) (h : Hp) : Out :=
  gtO (T.get fr (Pos.of 0)) fun v0 => bndO (TryF204 [v0] h) fun v78 h1 =>
  Out.nor (T.set (some v78) (Pos.of 76) fr) h1
def Tryr122p_15 (fr : F) (h : Hp) : Out :=
  gtO (T.get fr (Pos.of 14)) fun v14 => gtO (T.get fr (Pos.of 0)) fun v0 => bndO (oFunc (.func 240) [v0] [] h) fun v81 h2 =>
  bndO (TryF239 [v14, v81] h2) fun v82 h3 =>
  Out.nor (T.set (some v82) (Pos.of 76) fr) h3
def Tryr122p_16 (fr : F) (h : Hp) : Out :=
  Out.nor (T.set (some (.int .i64 11)) (Pos.of 11) (T.set (some (.int .i64 0)) (Pos.of 10) fr)) h
def Tryr122p_17 (fr : F) (h : Hp) : Out :=
  gtO (T.get fr (Pos.of 0)) fun v0 => bndO (TryF205 [v0] h) fun v84 h1 =>
  Out.nor (T.set (some v84) (Pos.of 16) fr) h1
def Tryr122p_18 (fr : F) (h : Hp) : Out :=
  gtO (T.get fr (Pos.of 0)) fun v0 => bndO (oNilCheck v0 h) fun v86 h1 =>
  bndO (oFieldAddr 14 v86 h1) fun v87 h2 =>
  bndO (oLoad1 v87 h2) fun v88 h3 =>
  bndO (oBin .add .none v88 (.int .i64 1) h3) fun v89 h4 =>
  bndO (oNilCheck v0 h4) fun v90 h5 =>
  bndO (oFieldAddr 14 v90 h5) fun v91 h6 =>
  bndO (oStore 1 v91 v89 h6) fun _u7 h7 =>
  Out.nor fr h7
def Tryr122p_19 (fr : F) (h : Hp) : Out :=
  gtO (T.get fr (Pos.of 0)) fun w4_0 => gtO (T.get fr (Pos.of 4)) fun w5_4 => bndO (TryF241 [w4_0, w5_4] (bumpH 1 h)) fun v98 h6 =>
  gtO (T.get fr (Pos.of 0)) fun w0_0 => bndO (oNilCheck w0_0 h6) fun v93 _ =>
  bndO (oFieldAddr 14 v93 h6) fun v94 _ =>
  bndO (oLoad1 v94 h6) fun v95 _ => chk (fun h => oLoad1 v94 h) v95 (
  gtO (T.get fr (Pos.of 4)) fun w7_4 => gtO (T.get fr (Pos.of 3)) fun w8_3 => gtO (T.get fr (Pos.of 12)) fun w9_12 => gtO (T.get fr (Pos.of 16)) fun w10_16 => gtO (T.get fr (Pos.of 16)) fun w11_16 => bndO (oBuild [(.int .i64 0), (.int .i64 0), (.str []), (.int .i64 0), .nils, .nils, (.int .i64 0), (.int .i64 0)] [(0, 1, v95), (1, 1, v98), (2, 1, w7_4), (3, 1, w8_3), (4, 1, w9_12), (6, 1, w10_16), (7, 1, w11_16)] h6) fun v104 _ =>
  alcO (aNew 45 [(.int .i64 0), (.int .i64 0), (.str []), (.int .i64 0), .nils, .nils, (.int .i64 0), (.int .i64 0)]) fun ob13 mk13 =>
  bndO (oStore 8 (mk13 (Hp.next h)) v104 (Hp.put h6 (Hp.next h) (some ob13))) fun _u14 h14 =>
  Out.nor (T.set (some (mk13 (Hp.next h))) (Pos.of 17) fr) h14) 1 [(bumpH 1 h)]
def Tryr122p_20 (fr : F) (h : Hp) : Out :=
  Out.nor (T.set (some (.int .i64 2)) (Pos.of 18) fr) h
def Tryr122p_21 (fr : F) (h : Hp) : Out :=
  gtO (T.get fr (Pos.of 17)) fun v17 => bndO (oFieldAddr 1 v17 h) fun v105 h0 =>
  bndO (oLoad1 v105 h0) fun v106 h1 =>
  bndO (oBin .eql .none v106 (.int .i64 0) h1) fun v107 h2 =>
  Out.nor (T.set (some v107) (Pos.of 107) fr) h2
def Tryr122p_22 (fr : F) (h : Hp) : Out :=
  gtO (T.get fr (Pos.of 17)) fun v17 => bndO (oFieldAddr 0 v17 h) fun v108 h0 =>
  bndO (oLoad1 v108 h0) fun v109 h1 =>
  bndO (oFieldAddr 1 v17 h1) fun v110 h2 =>
  bndO (oStore 1 v110 v109 h2) fun _u3 h3 =>
  Out.nor (T.set (some (.int .i64 1)) (Pos.of 18) fr) h3
def Tryr122p_23 (fr : F) (h : Hp) : Out :=
  gtO (T.get fr (Pos.of 14)) fun v14 => bndO (oLenK 2 v14 h) fun v112 h1 =>
  Out.nor (T.set (some (.int .i64 0)) (Pos.of 113) (T.set (some v112) (Pos.of 112) (T.set (some v14) (Pos.of 111) fr))) h1
def Tryr122p_24 (fr : F) (h : Hp) : Out :=
  gtO (T.get fr (Pos.of 113)) fun v113 => gtO (T.get fr (Pos.of 112)) fun v112 => bndO (oBin .lss .none v113 v112 h) fun v114 h0 =>
  Out.nor (T.set (some v114) (Pos.of 114) fr) h0
def Tryr122p_25 (fr : F) (h : Hp) : Out :=
  gtO (T.get fr (Pos.of 111)) fun v111 => gtO (T.get fr (Pos.of 113)) fun v113 => bndO (oIdxS 1 v111 v113 h) fun v115 h0 =>
  bndO (oLoad1 v115 h0) fun v116 h1 =>
  Out.nor (T.set (some v116) (Pos.of 20) fr) h1
def Tryr122p_26 (fr : F) (h : Hp) : Out :=
  gtO (T.get fr (Pos.of 0)) fun w2_0 => gtO (T.get fr (Pos.of 20)) fun w3_20 => bndO (TryF242 [w2_0, w3_20] (bumpH 1 h)) fun v121 h4 =>
  gtO (T.get fr (Pos.of 17)) fun w0_17 => bndO (oFieldAddr 5 w0_17 h4) fun v117 _ =>
  bndO (oLoad1 v117 h4) fun v118 _ => chk (fun h => oLoad1 v117 h) v118 (
  alcO (aBuildSlice 133 [(.int .i64 0), (.int .i64 0)] 1 [(0, 2, v121)]) fun ob5 mk5 =>
  bndO (oAppend 133 2 16 v118 (mk5 (Hp.next h)) (Hp.put h4 (Hp.next h) (some ob5))) fun v123 h6 =>
  gtO (T.get fr (Pos.of 17)) fun w7_17 => bndO (oFieldAddr 5 w7_17 h6) fun v124 _ =>
  bndO (oStore 1 v124 v123 h6) fun _u8 h8 =>
  Out.nor fr h8) 1 [(bumpH 1 h)]
def Tryr122p_27 (fr : F) (h : Hp) : Out :=
  gtO (T.get fr (Pos.of 113)) fun v113 => bndO (oBin .add .none v113 (.int .i64 1) h) fun v125 h0 =>
  Out.nor (T.set (some v125) (Pos.of 113) fr) h0
def Tryr122p_28 (fr : F) (h : Hp) : Out :=
  gtO (T.get fr (Pos.of 0)) fun w1_0 => bndO (oNilCheck w1_0 (bumpH 1 h)) fun v128 _ =>
  bndO (oFieldAddr 11 v128 (bumpH 1 h)) fun v129 _ =>
  bndO (oLoad1 v129 (bumpH 1 h)) fun v130 _ =>
  gtO (T.get fr (Pos.of 17)) fun w5_17 => bndO (oLoadN 8 w5_17 (bumpH 1 h)) fun v131 _ =>
  alcO (aBuildSlice 45 [(.int .i64 0), (.int .i64 0), (.str []), (.int .i64 0), .nils, .nils, (.int .i64 0), (.int .i64 0)] 1 [(0, 8, v131)]) fun ob6 mk6 =>
  bndO (oAppend 45 8 104 v130 (mk6 (Hp.next h)) (Hp.put (bumpH 1 h) (Hp.next h) (some ob6))) fun v133 h7 =>
  gtO (T.get fr (Pos.of 0)) fun w0_0 => bndO (oNilCheck w0_0 h7) fun v134 _ =>
  bndO (oFieldAddr 11 v134 h7) fun v135 _ =>
  bndO (oStore 1 v135 v133 h7) fun _u10 h10 =>
  Out.nor fr h10
def Tryr122p_29 (fr : F) (h : Hp) : Out :=
  gtO (T.get fr (Pos.of 0)) fun v0 => bndO (oNilCheck v0 h) fun v137 h1 =>
  bndO (oFieldAddr 15 v137 h1) fun v138 h2 =>
  bndO (oLoad1 v138 h2) fun v139 h3 =>
  gtO (T.get fr (Pos.of 4)) fun v4 => bndO (oLenK 1 v4 h3) fun v141 h5 =>
  bndO (oBin .add .none v139 v141 h5) fun v142 h6 =>
  bndO (oNilCheck v0 h6) fun v143 h7 =>
  bndO (oFieldAddr 15 v143 h7) fun v144 h8 =>
  bndO (oStore 1 v144 v142 h8) fun _u9 h9 =>
  Out.nor fr h9
def Tryr122p_30 (fr : F) (h : Hp) : Out :=
  gtO (T.get fr (Pos.of 0)) fun w4_0 => gtO (T.get fr (Pos.of 16)) fun w5_16 => gtO (T.get fr (Pos.of 14)) fun w6_14 => bndO (TryF215 [w4_0, w5_16, w6_14] (bumpH 1 h)) fun v152 h7 =>
  gtO (T.get fr (Pos.of 16)) fun w8_16 => gtO (T.get fr (Pos.of 17)) fun w9_17 => bndO (oFieldAddr 0 w9_17 h7) fun v154 _ =>
  bndO (oLoad1 v154 h7) fun v155 _ => chk (fun h => oLoad1 v154 h) v155 (
  bndO (oBuild [(.int .i64 0), (.int .i64 0), (.int .i64 0), (.int .i64 0)] [(0, 1, w8_16), (1, 1, (.int .i64 2)), (2, 1, v155), (3, 1, (.int .i64 1))] h7) fun v156 _ =>
  gtO (T.get fr (Pos.of 16)) fun w12_16 => gtO (T.get fr (Pos.of 17)) fun w13_17 => bndO (oFieldAddr 1 w13_17 h7) fun v158 _ =>
  bndO (oLoad1 v158 h7) fun v159 _ => chk (fun h => oLoad1 v158 h) v159 (
  gtO (T.get fr (Pos.of 18)) fun w15_18 => bndO (oBuild [(.int .i64 0), (.int .i64 0), (.int .i64 0), (.int .i64 0)] [(0, 1, w12_16), (1, 1, (.int .i64 3)), (2, 1, v159), (3, 1, w15_18)] h7) fun v161 _ =>
  alcO (aBuildSlice 284 [(.int .i64 0), (.int .i64 0), (.int .i64 0), (.int .i64 0), (.int .i64 0), (.int .i64 0), (.int .i64 0), (.int .i64 0)] 2 [(0, 4, v156), (4, 4, v161)]) fun ob17 mk17 =>
  bndO (oAppend 284 4 32 v152 (mk17 (Hp.next h)) (Hp.put h7 (Hp.next h) (some ob17))) fun v163 h18 =>
  gtO (T.get fr (Pos.of 0)) fun w0_0 => bndO (oNilCheck w0_0 h18) fun v146 _ =>
  bndO (oFieldAddr 12 v146 h18) fun v147 _ =>
  bndO (oLoad1 v147 h18) fun v148 _ => chk (fun h => oLoad1 v147 h) v148 (
  bndO (TryF206 [v148, v163] h18) fun v164 h19 =>
  Out.nor fr h19) 2 [h7, (bumpH 1 h)]) 1 [(bumpH 1 h)]) 1 [(bumpH 1 h)]
def Tryr122p_31 (fr : F) (h : Hp) : Out :=
  gtO (T.get fr (Pos.of 17)) fun v17 => bndO (oFieldAddr 0 v17 h) fun v165 h0 =>
  bndO (oLoad1 v165 h0) fun v166 h1 =>
  Out.nor (T.set (some (.int .i64 0)) (Pos.of 11) (T.set (some v166) (Pos.of 10) fr)) h1
def Tryb122p_24 : F → Hp → Out := (seqO Tryr122p_24 (seqO (cndX (.tmp 114) Out.nor (Out.ex 1)) (seqO (blkO 2 (seqO Tryr122p_25 Tryr122p_26)) Tryr122p_27)))
def Tryd122p : F → Hp → Out := (seqO Tryr122p_0 (seqO (seqO Tryr122p_1 (cndX (.tmp 22) (seqO Tryr122p_2 Out.ret) Out.nor)) (seqO (seqO Tryr122p_3 (cndX (.tmp 33) (seqO Tryr122p_4 Out.ret) Out.nor)) (seqO Tryr122p_5 (seqO (seqO Tryr122p_6 (cndX (.tmp 40) (seqO Tryr122p_7 Out.ret) Out.nor)) (seqO Tryr122p_8 (seqO (blkO 0 (seqO Tryr122p_9 (cndX (.tmp 48) (seqO Tryr122p_10 Out.ret) (seqO (seqO Tryr122p_11 (cndX (.tmp 51) Out.nor Tryr122p_12)) (cndX (.tmp 51) (seqO Tryr122p_13 Out.ret) (seqO (seqO Tryr122p_14 (cndX (.tmp 76) Out.nor Tryr122p_15)) (cndX (.tmp 76) (seqO Tryr122p_16 Out.ret) Out.nor))))))) (seqO Tryr122p_17 (seqO Tryr122p_18 (seqO Tryr122p_19 (seqO Tryr122p_20 (seqO (seqO Tryr122p_21 (cndX (.tmp 107) Tryr122p_22 Out.nor)) (seqO (seqO Tryr122p_23 (blkO 1 (loopO Tryb122p_24 lf))) (seqO Tryr122p_28 (seqO Tryr122p_29 (seqO Tryr122p_30 (seqO Tryr122p_31 Out.ret)))))))))))))))))
def Trye122p : FuncId → Option Fun := fun f => match Nat.beq f 237 with | true => some TryF237 | false => match Nat.beq f 238 with | true => some TryF238 | false => match Nat.beq f 204 with | true => some TryF204 | false => match Nat.beq f 239 with | true => some TryF239 | false => match Nat.beq f 205 with | true => some TryF205 | false => match Nat.beq f 241 with | true => some TryF241 | false => match Nat.beq f 242 with | true => some TryF242 | false => match Nat.beq f 215 with | true => some TryF215 | false => match Nat.beq f 206 with | true => some TryF206 | false => none
def Tryp122p : Plans := fun id => match Nat.beq id 11 with | true => some ([0, 1, 3, 7, 15, 0, 32, 96, 224, 480, 1023, 2047], [(0, .pure), (1, .pure), (2, .pure), (3, .read 0), (4, .pure), (5, .pure), (6, .pure), (7, .pure), (8, .pure), (9, .read 0), (10, .pure), (11, .pure)]) | false => match Nat.beq id 12 with | true => some ([0, 1, 0, 4, 12, 28, 60, 0, 128, 384, 896, 2044, 4095, 8191], [(0, .pure), (1, .pure), (2, .pure), (3, .pure), (4, .pure), (5, .pure), (6, .read 0), (7, .pure), (8, .pure), (9, .pure), (10, .read 0), (11, .pure), (12, .pure), (13, .pure)]) | false => match Nat.beq id 19 with | true => some ([0, 1, 3, 7, 0, 0, 48, 0, 0, 0, 0, 0, 4095, 0, 16383], [(4, .pure), (5, .pure), (6, .heavy), (0, .pure), (1, .pure), (2, .pure), (3, .read 1), (7, .pure), (8, .pure), (9, .pure), (10, .pure), (11, .pure), (12, .pure), (13, .alloc), (14, .heavy)]) | false => match Nat.beq id 26 with | true => some ([0, 1, 0, 0, 12, 28, 63, 127, 255], [(2, .pure), (3, .pure), (4, .heavy), (0, .pure), (1, .read 1), (5, .alloc), (6, .heavy), (7, .pure), (8, .heavy)]) | false => match Nat.beq id 28 with | true => some ([0, 0, 2, 6, 14, 0, 32, 126, 255, 511, 1023], [(1, .pure), (2, .pure), (3, .pure), (4, .read 0), (5, .read 0), (6, .alloc), (7, .heavy), (0, .pure), (8, .pure), (9, .pure), (10, .heavy)]) | false => match Nat.beq id 30 with | true => some ([0, 1, 3, 7, 0, 0, 0, 112, 0, 0, 512, 1792, 0, 0, 8192, 0, 61440, 130816, 262128, 524287], [(4, .pure), (5, .pure), (6, .pure), (7, .heavy), (8, .pure), (9, .pure), (10, .read 1), (11, .pure), (12, .pure), (13, .pure), (14, .read 1), (15, .pure), (16, .pure), (17, .alloc), (18, .heavy), (0, .pure), (1, .pure), (2, .pure), (3, .read 2), (19, .heavy)]) | false => none
def TryF122p : Fun := funX Tryz.prog TryG Tryk122p Trye122p Tryp122p lf Tryz.f122
theorem TryD122p : denX Tryz.prog TryG Tryz.f122.ntmps Tryk122p Trye122p Tryp122p lf (codeOf Tryz.f122) = Tryd122p := by kernel_rfl
theorem TryF122p_eq (x0 x1 x2 x3 x4 : V) (h : Hp) : TryF122p [x0, x1, x2, x3, x4] h = outR Tryz.prog [.tmp 10, .tmp 11] (Tryd122p (T.set (some x4) (Pos.of 4) (T.set (some x3) (Pos.of 3) (T.set (some x2) (Pos.of 2) (T.set (some x1) (Pos.of 1) (T.set (some x0) (Pos.of 0) T.nil))))) h) := funX_eq (by kernel_rfl) TryD122p (by kernel_rfl) h
theorem Tryc122p : CallOk Tryz.prog TryG 122 TryF122p := funX_ok Trymix (callsOk_cons Tryc237 (callsOk_cons Tryc238 (callsOk_cons Tryc204 (callsOk_cons Tryc239 (callsOk_cons Tryc205 (callsOk_cons Tryc241 (callsOk_cons Tryc242 (callsOk_cons Tryc215 (callsOk_cons Tryc206 callsOk_0))))))))) Tryz.func122 (by kernel_rfl)
def Tryk61p : Nat → Bool := fun t => memN t [1, 4, 5, 6, 7, 8, 9, 10, 11, 12, 13, 14, 15, 29, 41, 52, 69, 77, 82, 93, 103, 129]
def Tryr61p_0 (fr : F) (h : Hp) : Out :=
  bndO (oNew 192 [(.int .i64 0), (.str []), (.bool false), (.bool false), (.bool false)] h) fun v4 h0 =>
  Out.nor (T.set (some v4) (Pos.of 4) fr) h0
def Tryr61p_1 (fr : F) (h : Hp) : Out :=
  gtO (T.get fr (Pos.of 1)) fun v1 => bndO (oNilCheck v1 h) fun v17 h1 =>
  bndO (oFieldAddr 3 v17 h1) fun v18 h2 =>
  bndO (oLoad1 v18 h2) fun v19 h3 =>
  Out.nor (T.set (some v19) (Pos.of 5) fr) h3
def Tryr61p_2 (fr : F) (h : Hp) : Out :=
  gtO (T.get fr (Pos.of 5)) fun v5 => bndO (oLenK 2 v5 h) fun v21 h1 =>
  bndO (oBin .lss .none v21 (.int .i64 2) h1) fun v22 h2 =>
  ifB v22 (Out.nor (T.set (some (.bool true)) (Pos.of 29) fr) h2) (bndO (oIdxS 3 v5 (.int .i64 0) h2) fun v25 h5 =>
  bndO (oFieldAddr 0 v25 h5) fun v26 h6 =>
  bndO (oLoad1 v26 h6) fun v27 h7 =>
  bndO (oBin .eql .none v27 (.int .i64 3) h7) fun v28 h8 =>
  Out.nor (T.set (some v28) (Pos.of 29) fr) h8)
def Tryr61p_3 (fr : F) (h : Hp) : Out :=
  bndO (TryF97 [] h) fun v30 h0 =>
  gtO (T.get fr (Pos.of 4)) fun v4 => bndO (oStore 5 v4 v30 h0) fun _u1 h1 =>
  Out.nor fr h1
def Tryr61p_4 (fr : F) (h : Hp) : Out :=
  gtO (T.get fr (Pos.of 5)) fun v5 => bndO (oIdxS 3 v5 (.int .i64 0) h) fun v32 h1 =>
  bndO (oFieldAddr 1 v32 h1) fun v33 h2 =>
  bndO (oLoad1 v33 h2) fun v34 h3 =>
  Out.nor (T.set (some v34) (Pos.of 6) fr) h3
def Tryr61p_5 (fr : F) (h : Hp) : Out :=
  gtO (T.get fr (Pos.of 5)) fun v5 => bndO (oSlice 3 v5 (some (.int .i64 1)) none none h) fun v36 h1 =>
  Out.nor (T.set (some v36) (Pos.of 5) fr) h1
def Tryr61p_6 (fr : F) (h : Hp) : Out :=
  Out.nor (T.set (some .nils) (Pos.of 7) fr) h
def Tryr61p_7 (fr : F) (h : Hp) : Out :=
  Out.nor (T.set (some (.int .i64 0)) (Pos.of 8) fr) h
def Tryr61p_8 (fr : F) (h : Hp) : Out :=
  gtO (T.get fr (Pos.of 5)) fun v5 => bndO (oIdxS 3 v5 (.int .i64 0) h) fun v38 h1 =>
  bndO (oFieldAddr 0 v38 h1) fun v39 h2 =>
  bndO (oLoad1 v39 h2) fun v40 h3 =>
  bndO (oBin .eql .none v40 (.int .i64 3) h3) fun v41 h4 =>
  Out.nor (T.set (some v41) (Pos.of 41) fr) h4
def Tryr61p_9 (fr : F) (h : Hp) : Out :=
  gtO (T.get fr (Pos.of 5)) fun v5 => bndO (oIdxS 3 v5 (.int .i64 0) h) fun v44 h1 =>
  bndO (oFieldAddr 2 v44 h1) fun v45 h2 =>
  bndO (oLoad1 v45 h2) fun v46 h3 =>
  bndO (TryF118 [v46] h3) fun v47 h4 =>
  bndO (oExtract 0 v47 h4) fun v48 h6 =>
  bndO (oExtract 1 v47 h6) fun v49 h7 =>
  bndO (oExtract 2 v47 h7) fun v50 h8 =>
  Out.nor (T.set (some v50) (Pos.of 11) (T.set (some v49) (Pos.of 10) (T.set (some v48) (Pos.of 9) fr))) h8
def Tryr61p_10 (fr : F) (h : Hp) : Out :=
  gtO (T.get fr (Pos.of 11)) fun v11 => bndO (oUn .not v11 h) fun v52 h1 =>
  Out.nor (T.set (some v52) (Pos.of 52) fr) h1
def Tryr61p_11 (fr : F) (h : Hp) : Out :=
  bndO (TryF97 [] h) fun v53 h0 =>
  gtO (T.get fr (Pos.of 4)) fun v4 => bndO (oStore 5 v4 v53 h0) fun _u1 h1 =>
  Out.nor fr h1
def Tryr61p_12 (fr : F) (h : Hp) : Out :=
  gtO (T.get fr (Pos.of 9)) fun v9 => gtO (T.get fr (Pos.of 10)) fun v10 => Out.nor (T.set (some v10) (Pos.of 8) (T.set (some v9) (Pos.of 7) fr)) h
def Tryr61p_13 (fr : F) (h : Hp) : Out :=
  gtO (T.get fr (Pos.of 5)) fun v5 => bndO (oSlice 3 v5 (some (.int .i64 1)) none none h) fun v57 h1 =>
  Out.nor (T.set (some v57) (Pos.of 5) fr) h1
def Tryr61p_14 (fr : F) (h : Hp) : Out :=
  gtO (T.get fr (Pos.of 5)) fun v5 => bndO (oLenK 2 v5 h) fun v59 h1 =>
  bndO (oBin .lss .none v59 (.int .i64 1) h1) fun v60 h2 =>
  ifB v60 (Out.nor (T.set (some (.bool true)) (Pos.of 69) fr) h2) (bndO (oLenK 2 v5 h2) fun v63 h5 =>
  bndO (oBin .gtr .none v63 (.int .i64 2) h5) fun v64 h6 =>
  ifB v64 (Out.nor (T.set (some (.bool true)) (Pos.of 69) fr) h6) (bndO (TryF119 [v5, (.func (.func 120) .nil .nil)] h6) fun v68 h10 =>
  Out.nor (T.set (some v68) (Pos.of 69) fr) h10))
def Tryr61p_15 (fr : F) (h : Hp) : Out :=
  bndO (TryF97 [] h) fun v70 h0 =>
  gtO (T.get fr (Pos.of 4)) fun v4 => bndO (oStore 5 v4 v70 h0) fun _u1 h1 =>
  Out.nor fr h1
def Tryr61p_16 (fr : F) (h : Hp) : Out :=
  gtO (T.get fr (Pos.of 1)) fun v1 => gtO (T.get fr (Pos.of 6)) fun v6 => bndO (TryF104 [v1, v6] h) fun v74 h2 =>
  bndO (oExtract 0 v74 h2) fun v75 h4 =>
  bndO (oExtract 1 v74 h4) fun v76 h5 =>
  Out.nor (T.set (some v76) (Pos.of 13) (T.set (some v75) (Pos.of 12) fr)) h5
def Tryr61p_17 (fr : F) (h : Hp) : Out :=
  gtO (T.get fr (Pos.of 13)) fun v13 => bndO (oBin .neq .none v13 (.int .i64 0) h) fun v79 h1 =>
  Out.nor (T.set (some v79) (Pos.of 77) fr) h1
def Tryr61p_18 (fr : F) (h : Hp) : Out :=
  gtO (T.get fr (Pos.of 13)) fun v13 => bndO (TryF106 [v13] h) fun v81 h1 =>
  gtO (T.get fr (Pos.of 4)) fun v4 => bndO (oStore 5 v4 v81 h1) fun _u2 h2 =>
  Out.nor fr h2
def Tryr61p_19 (fr : F) (h : Hp) : Out :=
  gtO (T.get fr (Pos.of 8)) fun v8 => bndO (oBin .neq .none v8 (.int .i64 0) h) fun v84 h1 =>
  Out.nor (T.set (some v84) (Pos.of 82) fr) h1
def Tryr61p_20 (fr : F) (h : Hp) : Out :=
  gtO (T.get fr (Pos.of 8)) fun v8 => bndO (TryF106 [v8] h) fun v86 h1 =>
  gtO (T.get fr (Pos.of 4)) fun v4 => bndO (oStore 5 v4 v86 h1) fun _u2 h2 =>
  Out.nor fr h2
def Tryr61p_21 (fr : F) (h : Hp) : Out :=
  gtO (T.get fr (Pos.of 1)) fun v1 => bndO (oNilCheck v1 h) fun v88 h1 =>
  bndO (oFieldAddr 2 v88 h1) fun v89 h2 =>
  bndO (oLoad1 v89 h2) fun v90 h3 =>
  Out.nor (T.set (some v90) (Pos.of 14) fr) h3
def Tryr61p_22 (fr : F) (h : Hp) : Out :=
  gtO (T.get fr (Pos.of 5)) fun v5 => bndO (oLenK 2 v5 h) fun v92 h1 =>
  bndO (oBin .eql .none v92 (.int .i64 2) h1) fun v93 h2 =>
  Out.nor (T.set (some v93) (Pos.of 93) fr) h2
def Tryr61p_23 (fr : F) (h : Hp) : Out :=
  gtO (T.get fr (Pos.of 5)) fun v5 => bndO (oIdxS 3 v5 (.int .i64 0) h) fun v96 h1 =>
  bndO (oFieldAddr 1 v96 h1) fun v97 h2 =>
  bndO (oLoad1 v97 h2) fun v98 h3 =>
  bndO (TryF121 [v98] h3) fun v99 h4 =>
  bndO (oExtract 0 v99 h4) fun v100 h6 =>
  bndO (oExtract 1 v99 h6) fun v101 h7 =>
  Out.nor (T.set (some v101) (Pos.of 13) (T.set (some v100) (Pos.of 14) fr)) h7
def Tryr61p_24 (fr : F) (h : Hp) : Out :=
  gtO (T.get fr (Pos.of 13)) fun v13 => bndO (oBin .neq .none v13 (.int .i64 0) h) fun v103 h1 =>
  Out.nor (T.set (some v103) (Pos.of 103) fr) h1
def Tryr61p_25 (fr : F) (h : Hp) : Out :=
  gtO (T.get fr (Pos.of 13)) fun v13 => bndO (TryF106 [v13] h) fun v105 h1 =>
  gtO (T.get fr (Pos.of 4)) fun v4 => bndO (oStore 5 v4 v105 h1) fun _u2 h2 =>
  Out.nor fr h2
def Tryr61p_26 (fr : F) (h : Hp) : Out :=
  gtO (T.get fr (Pos.of 1)) fun v1 => gtO (T.get fr (Pos.of 12)) fun v12 => bndO (TryF114 [v1, v12] h) fun v108 h2 =>
  bndO (oNew 90 [(.int .i64 0), (.str []), (.int .i64 0), (.int .i64 0), (.int .i64 0), (.int .i64 0)] h2) fun v15 h3 =>
  bndO (oStore 6 v15 v108 h3) fun _u4 h4 =>
  Out.nor (T.set (some v15) (Pos.of 15) fr) h4
def Tryr61p_27 (fr : F) (h : Hp) : Out :=
  gtO (T.get fr (Pos.of 1)) fun w0_1 => bndO (oNilCheck w0_1 (bumpH 1 h)) fun v111 _ =>
  bndO (oFieldAddr 1 v111 (bumpH 1 h)) fun v112 _ =>
  bndO (oLoad1 v112 (bumpH 1 h)) fun v113 _ =>
  gtO (T.get fr (Pos.of 12)) fun w4_12 => alcO (aBuildSlice 3 [(.int .i64 0)] 1 [(0, 1, w4_12)]) fun ob5 mk5 =>
  gtO (T.get fr (Pos.of 7)) fun w6_7 => gtO (T.get fr (Pos.of 14)) fun w7_14 => gtO (T.get fr (Pos.of 5)) fun w8_5 => gtO (T.get fr (Pos.of 5)) fun w9_5 => bndO (oLenK 2 w9_5 (bumpH 1 h)) fun v120 _ =>
  bndO (oBin .sub .none v120 (.int .i64 1) (bumpH 1 h)) fun v121 _ =>
  bndO (oIdxS 3 w8_5 v121 (bumpH 1 h)) fun v122 _ =>
  bndO (oFieldAddr 1 v122 (bumpH 1 h)) fun v123 _ =>
  bndO (oLoad1 v123 (bumpH 1 h)) fun v124 _ =>
  bndO (TryF122p [v113, (mk5 (Hp.next h)), w6_7, w7_14, v124] (Hp.put (bumpH 1 h) (Hp.next h) (some ob5))) fun v125 h15 =>
  bndO (oExtract 0 v125 h15) fun v126 _ =>
  bndO (oExtract 1 v125 h15) fun v127 _ =>
  Out.nor (T.set (some v127) (Pos.of 13) fr) h15
def Tryr61p_28 (fr : F) (h : Hp) : Out :=
  gtO (T.get fr (Pos.of 13)) fun v13 => bndO (oBin .neq .none v13 (.int .i64 0) h) fun v129 h1 =>
  Out.nor (T.set (some v129) (Pos.of 129) fr) h1
def Tryr61p_29 (fr : F) (h : Hp) : Out :=
  gtO (T.get fr (Pos.of 13)) fun v13 => bndO (TryF106 [v13] h) fun v131 h1 =>
  gtO (T.get fr (Pos.of 4)) fun v4 => bndO (oStore 5 v4 v131 h1) fun _u2 h2 =>
  Out.nor fr h2
def Tryr61p_30 (fr : F) (h : Hp) : Out :=
  gtO (T.get fr (Pos.of 15)) fun w0_15 => bndO (oFieldAddr 3 w0_15 (bumpH 0 h)) fun v132 _ =>
  bndO (oLoad1 v132 (bumpH 0 h)) fun v133 _ =>
  bndO (TryF115 [v133] (bumpH 0 h)) fun v134 h2 =>
  gtO (T.get fr (Pos.of 15)) fun w5_15 => bndO (oFieldAddr 4 w5_15 h2) fun v137 _ =>
  bndO (oLoad1 v137 h2) fun v138 _ => chk (fun h => oLoad1 v137 h) v138 (
  bndO (TryF115 [v138] h2) fun v139 h7 =>
  bndO (oBin .add .none (.str [65, 80, 80, 69, 78, 68, 85, 73, 68, 32]) v134 h7) fun v135 _ =>
  bndO (oBin .add .none v135 (.str [32]) h7) fun v136 _ =>
  bndO (oBin .add .none v136 v139 h7) fun v140 _ =>
  bndO (oBuild [(.int .i64 0), (.str []), (.bool false), (.bool false), (.bool false)] [(1, 1, v140)] h7) fun v141 _ =>
  gtO (T.get fr (Pos.of 4)) fun w10_4 => bndO (oStore 5 w10_4 v141 h7) fun _u10 h10 =>
  Out.nor fr h10) 1 [(bumpH 0 h)]
def Tryd61p : F → Hp → Out := (seqO Tryr61p_0 (seqO Tryr61p_1 (seqO (seqO Tryr61p_2 (cndX (.tmp 29) (seqO Tryr61p_3 Out.ret) Out.nor)) (seqO Tryr61p_4 (seqO Tryr61p_5 (seqO Tryr61p_6 (seqO Tryr61p_7 (seqO (seqO Tryr61p_8 (cndX (.tmp 41) (seqO Tryr61p_9 (seqO (seqO Tryr61p_10 (cndX (.tmp 52) (seqO Tryr61p_11 Out.ret) Out.nor)) (seqO Tryr61p_12 Tryr61p_13))) Out.nor)) (seqO (seqO Tryr61p_14 (cndX (.tmp 69) (seqO Tryr61p_15 Out.ret) Out.nor)) (seqO Tryr61p_16 (seqO (blkO 0 (seqO Tryr61p_17 (cndX (.tmp 77) (seqO Tryr61p_18 Out.ret) (seqO Tryr61p_19 (cndX (.tmp 82) (seqO Tryr61p_20 Out.ret) Out.nor))))) (seqO Tryr61p_21 (seqO (seqO Tryr61p_22 (cndX (.tmp 93) (seqO Tryr61p_23 (seqO Tryr61p_24 (cndX (.tmp 103) (seqO Tryr61p_25 Out.ret) Out.nor))) Out.nor)) (seqO Tryr61p_26 (seqO (seqO Tryr61p_27 (seqO Tryr61p_28 (cndX (.tmp 129) (seqO Tryr61p_29 Out.ret) Out.nor))) (seqO Tryr61p_30 Out.ret))))))))))))))))
def Trye61p : FuncId → Option Fun := fun f => match Nat.beq f 97 with | true => some TryF97 | false => match Nat.beq f 118 with | true => some TryF118 | false => match Nat.beq f 119 with | true => some TryF119 | false => match Nat.beq f 104 with | true => some TryF104 | false => match Nat.beq f 106 with | true => some TryF106 | false => match Nat.beq f 121 with | true => some TryF121 | false => match Nat.beq f 114 with | true => some TryF114 | false => match Nat.beq f 122 with | true => some TryF122p | false => match Nat.beq f 115 with | true => some TryF115 | false => none
def Tryp61p : Plans := fun id => match Nat.beq id 27 with | true => some ([0, 1, 3, 7, 0, 16, 0, 0, 0, 0, 512, 1536, 3840, 7936, 16128, 32767, 65535, 131071, 131071, 524287], [(0, .pure), (1, .pure), (2, .pure), (3, .read 0), (4, .pure), (5, .alloc), (6, .pure), (7, .pure), (8, .pure), (9, .pure), (10, .pure), (11, .pure), (12, .pure), (13, .pure), (14, .read 0), (15, .heavy), (16, .pure), (17, .pure), (18, .pure), (19, .pure)]) | false => match Nat.beq id 30 with | true => some ([0, 1, 3, 7, 15, 0, 32, 103, 255, 511, 1023], [(0, .pure), (1, .read 0), (2, .heavy), (5, .pure), (6, .read 1), (7, .heavy), (3, .pure), (4, .pure), (8, .pure), (9, .pure), (10, .heavy)]) | false => none
def TryF61p : Fun := funX Tryz.prog TryG Tryk61p Trye61p Tryp61p lf Tryz.f61
theorem TryD61p : denX Tryz.prog TryG Tryz.f61.ntmps Tryk61p Trye61p Tryp61p lf (codeOf Tryz.f61) = Tryd61p := by kernel_rfl
theorem TryF61p_eq (x0 x1 : V) (h : Hp) : TryF61p [x0, x1] h = outR Tryz.prog [.cell 4 192] (Tryd61p (T.set (some x1) (Pos.of 1) T.nil) h) := funX_eq (by kernel_rfl) TryD61p (by kernel_rfl) h
theorem Tryc61p : CallOk Tryz.prog TryG 61 TryF61p := funX_ok Trymix (callsOk_cons Tryc97 (callsOk_cons Tryc118 (callsOk_cons Tryc119 (callsOk_cons Tryc104 (callsOk_cons Tryc106 (callsOk_cons Tryc121 (callsOk_cons Tryc114 (callsOk_cons Tryc122p (callsOk_cons Tryc115 callsOk_0))))))))) Tryz.func61 (by kernel_rfl)
def Tryk158p : Nat → Bool := fun t => memN t [0, 1, 2, 6, 7, 8, 9, 11, 17, 59, 62, 63, 70, 76, 84]
def Trye158p : FuncId → Option Fun := fun f => match Nat.beq f 157 with | true => some TryF157 | false => match Nat.beq f 159 with | true => some TryF159 | false => match Nat.beq f 126 with | true => some TryF126 | false => match Nat.beq f 53 with | true => some TryF53 | false => match Nat.beq f 61 with | true => some TryF61p | false => none
def Tryr158p_0 (fr : F) (h : Hp) : Out :=
  bndO (oNew 192 [(.int .i64 0), (.str []), (.bool false), (.bool false), (.bool false)] h) fun v6 h0 =>
  Out.nor (T.set (some v6) (Pos.of 6) fr) h0
def Tryr158p_1 (fr : F) (h : Hp) : Out :=
  gtO (T.get fr (Pos.of 2)) fun v2 => bndO (oBin .eql .none v2 (.str [117, 105, 100]) h) fun v11 h1 =>
  Out.nor (T.set (some v11) (Pos.of 11) fr) h1
def Tryr158p_2 (fr : F) (h : Hp) : Out :=
  gtO (T.get fr (Pos.of 1)) fun v1 => bndO (oNilCheck v1 h) fun v13 h1 =>
  bndO (oFieldAddr 3 v13 h1) fun v14 h2 =>
  bndO (oLoad1 v14 h2) fun v15 h3 =>
  bndO (TryF157 [v15, (.int .i64 0)] h3) fun v16 h4 =>
  bndO (oUn .not v16 h4) fun v17 h5 =>
  Out.nor (T.set (some v17) (Pos.of 17) fr) h5
def Tryr158p_3 (fr : F) (h : Hp) : Out :=
  bndO (oBuild [(.int .i64 0), (.str []), (.bool false), (.bool false), (.bool false)] [(0, 1, (.int .i64 2)), (1, 1, (.str [99, 111, 109, 109, 97, 110, 100]))] h) fun v18 h0 =>
  gtO (T.get fr (Pos.of 6)) fun v6 => bndO (oStore 5 v6 v18 h0) fun _u1 h1 =>
  Out.nor fr h1
def Tryr158p_4 (fr : F) (h : Hp) : Out :=
  gtO (T.get fr (Pos.of 1)) fun v1 => bndO (oNilCheck v1 h) fun v20 h1 =>
  bndO (oFieldAddr 3 v20 h1) fun v21 h2 =>
  bndO (oLoad1 v21 h2) fun v22 h3 =>
  bndO (oIdxS 3 v22 (.int .i64 0) h3) fun v23 h4 =>
  bndO (oFieldAddr 1 v23 h4) fun v24 h5 =>
  bndO (oLoad1 v24 h5) fun v25 h6 =>
  bndO (TryF159 [v25] h6) fun v26 h7 =>
  Out.nor (T.set (some v26) (Pos.of 2) fr) h7
def Tryr158p_5 (fr : F) (h : Hp) : Out :=
  gtO (T.get fr (Pos.of 1)) fun v1 => bndO (oNilCheck v1 h) fun v30 h3 =>
  bndO (oFieldAddr 3 v30 h3) fun v31 h4 =>
  bndO (oLoad1 v31 h4) fun v32 h5 =>
  bndO (oSlice 3 v32 (some (.int .i64 1)) none none h5) fun v33 h6 =>
  bndO (oNilCheck v1 h6) fun v34 h7 =>
  bndO (oFieldAddr 3 v34 h7) fun v35 h8 =>
  bndO (oStore 1 v35 v33 h8) fun _u9 h9 =>
  bndO (oNilCheck v1 h9) fun v36 h10 =>
  bndO (oFieldAddr 4 v36 h10) fun v37 h11 =>
  bndO (oStore 1 v37 (.bool true) h11) fun _u12 h12 =>
  Out.nor fr h12
def Tryr158p_6 (fr : F) (h : Hp) : Out :=
  gtO (T.get fr (Pos.of 0)) fun v0 => bndO (oNilCheck v0 h) fun v40 h1 =>
  bndO (oFieldAddr 4 v40 h1) fun v41 h2 =>
  bndO (oLoad1 v41 h2) fun v42 h3 =>
  gtO (T.get fr (Pos.of 2)) fun v2 => bndO (oLookK .string true (.agg (.cons .nilf (.cons (.int .i64 0) (.cons (.bool false) .nil)))) v42 v2 h3) fun v44 h5 =>
  bndO (oExtract 0 v44 h5) fun v45 h7 =>
  bndO (oExtract 1 v44 h7) fun v46 h8 =>
  bndO (oNew 148 [.nilf, (.int .i64 0), (.bool false)] h8) fun v7 h9 =>
  bndO (oStore 3 v7 v45 h9) fun _u10 h10 =>
  Out.nor (T.set (some v46) (Pos.of 8) (T.set (some v7) (Pos.of 7) fr)) h10
def Tryr158p_7 (fr : F) (h : Hp) : Out :=
  gtO (T.get fr (Pos.of 8)) fun v8 => bndO (oUn .not v8 h) fun v48 h1 =>
  ifB v48 (Out.nor (T.set (some (.bool true)) (Pos.of 59) fr) h1) (gtO (T.get fr (Pos.of 1)) fun v1 => bndO (oNilCheck v1 h1) fun v51 h4 =>
  bndO (oFieldAddr 4 v51 h4) fun v52 h5 =>
  bndO (oLoad1 v52 h5) fun v53 h6 =>
  ifB v53 (gtO (T.get fr (Pos.of 7)) fun v7 => bndO (oFieldAddr 2 v7 h6) fun v55 h8 =>
  bndO (oLoad1 v55 h8) fun v56 h9 =>
  bndO (oUn .not v56 h9) fun v57 h10 =>
  Out.nor (T.set (some v57) (Pos.of 59) fr) h10) (Out.nor (T.set (some (.bool false)) (Pos.of 59) fr) h6))
def Tryr158p_8 (fr : F) (h : Hp) : Out :=
  bndO (oBuild [(.int .i64 0), (.str []), (.bool false), (.bool false), (.bool false)] [(0, 1, (.int .i64 2)), (1, 1, (.str [99, 111, 109, 109, 97, 110, 100]))] h) fun v60 h0 =>
  gtO (T.get fr (Pos.of 6)) fun v6 => bndO (oStore 5 v6 v60 h0) fun _u1 h1 =>
  Out.nor fr h1
def Tryr158p_9 (fr : F) (h : Hp) : Out :=
  Out.nor (T.set (some (.bool true)) (Pos.of 9) fr) h
def Tryr158p_10 (fr : F) (h : Hp) : Out :=
  gtO (T.get fr (Pos.of 7)) fun v7 => bndO (oFieldAddr 1 v7 h) fun v61 h0 =>
  bndO (oLoad1 v61 h0) fun v62 h1 =>
  Out.nor (T.set (some v62) (Pos.of 62) fr) h1
def Tryr158p_11 (fr : F) (h : Hp) : Out :=
  gtO (T.get fr (Pos.of 62)) fun v62 => bndO (oBin .eql .none v62 (.int .i64 1) h) fun v64 h0 =>
  Out.nor (T.set (some v64) (Pos.of 63) fr) h0
def Tryr158p_12 (fr : F) (h : Hp) : Out :=
  gtO (T.get fr (Pos.of 0)) fun v0 => bndO (oNilCheck v0 h) fun v66 h1 =>
  bndO (oFieldAddr 0 v66 h1) fun v67 h2 =>
  bndO (oLoad1 v67 h2) fun v68 h3 =>
  bndO (oUn .not v68 h3) fun v69 h4 =>
  Out.nor (T.set (some v69) (Pos.of 9) fr) h4
def Tryr158p_13 (fr : F) (h : Hp) : Out :=
  gtO (T.get fr (Pos.of 62)) fun v62 => bndO (oBin .eql .none v62 (.int .i64 2) h) fun v71 h0 =>
  Out.nor (T.set (some v71) (Pos.of 70) fr) h0
def Tryr158p_14 (fr : F) (h : Hp) : Out :=
  gtO (T.get fr (Pos.of 0)) fun v0 => bndO (oNilCheck v0 h) fun v73 h1 =>
  bndO (oFieldAddr 0 v73 h1) fun v74 h2 =>
  bndO (oLoad1 v74 h2) fun v75 h3 =>
  Out.nor (T.set (some v75) (Pos.of 9) fr) h3
def Tryr158p_15 (fr : F) (h : Hp) : Out :=
  gtO (T.get fr (Pos.of 62)) fun v62 => bndO (oBin .eql .none v62 (.int .i64 3) h) fun v77 h0 =>
  Out.nor (T.set (some v77) (Pos.of 76) fr) h0
def Tryr158p_16 (fr : F) (h : Hp) : Out :=
  gtO (T.get fr (Pos.of 0)) fun v0 => bndO (oNilCheck v0 h) fun v79 h1 =>
  bndO (oFieldAddr 1 v79 h1) fun v80 h2 =>
  bndO (oLoad1 v80 h2) fun v81 h3 =>
  bndO (oBin .neq (.ptr 3) v81 .nilp h3) fun v82 h4 =>
  Out.nor (T.set (some v82) (Pos.of 9) fr) h4
def Tryr158p_17 (fr : F) (h : Hp) : Out :=
  gtO (T.get fr (Pos.of 9)) fun v9 => bndO (oUn .not v9 h) fun v84 h1 =>
  Out.nor (T.set (some v84) (Pos.of 84) fr) h1
def Tryr158p_18 (fr : F) (h : Hp) : Out :=
  bndO (TryF126 [] h) fun v85 h0 =>
  gtO (T.get fr (Pos.of 6)) fun v6 => bndO (oStore 5 v6 v85 h0) fun _u1 h1 =>
  Out.nor fr h1
def Tryr158p_19 (fr : F) (h : Hp) : Out :=
  gtO (T.get fr (Pos.of 7)) fun v7 => bndO (oFieldAddr 0 v7 h) fun v86 h0 =>
  bndO (oLoad1 v86 h0) fun v87 h1 =>
  gtO (T.get fr (Pos.of 1)) fun v1 => bndO (oCallV Trye158p v87 [v1] h1) fun v89 h3 =>
  gtO (T.get fr (Pos.of 6)) fun v6 => bndO (oStore 5 v6 v89 h3) fun _u4 h4 =>
  Out.nor fr h4
def Tryd158p : F → Hp → Out := (seqO Tryr158p_0 (seqO (seqO Tryr158p_1 (cndX (.tmp 11) (seqO (seqO Tryr158p_2 (cndX (.tmp 17) (seqO Tryr158p_3 Out.ret) Out.nor)) (seqO Tryr158p_4 Tryr158p_5)) Out.nor)) (seqO Tryr158p_6 (seqO (seqO Tryr158p_7 (cndX (.tmp 59) (seqO Tryr158p_8 Out.ret) Out.nor)) (seqO Tryr158p_9 (seqO (seqO Tryr158p_10 (blkO 0 (seqO Tryr158p_11 (cndX (.tmp 63) Tryr158p_12 (seqO Tryr158p_13 (cndX (.tmp 70) Tryr158p_14 (seqO Tryr158p_15 (cndX (.tmp 76) Tryr158p_16 Out.nor)))))))) (seqO (seqO Tryr158p_17 (cndX (.tmp 84) (seqO Tryr158p_18 Out.ret) Out.nor)) (seqO Tryr158p_19 Out.ret))))))))
def Tryp158p : Plans := fun id => none
def TryF158p : Fun := funX Tryz.prog TryG Tryk158p Trye158p Tryp158p lf Tryz.f158
theorem TryD158p : denX Tryz.prog TryG Tryz.f158.ntmps Tryk158p Trye158p Tryp158p lf (codeOf Tryz.f158) = Tryd158p := by kernel_rfl
theorem TryF158p_eq (x0 x1 x2 : V) (h : Hp) : TryF158p [x0, x1, x2] h = outR Tryz.prog [.cell 6 192] (Tryd158p (T.set (some x2) (Pos.of 2) (T.set (some x1) (Pos.of 1) (T.set (some x0) (Pos.of 0) T.nil))) h) := funX_eq (by kernel_rfl) TryD158p (by kernel_rfl) h
theorem Tryc158p : CallOk Tryz.prog TryG 158 TryF158p := funX_ok Trymix (callsOk_cons Tryc157 (callsOk_cons Tryc159 (callsOk_cons Tryc126 (callsOk_cons Tryc53 (callsOk_cons Tryc61p callsOk_0))))) Tryz.func158 (by kernel_rfl)
def Tryk70p : Nat → Bool := fun t => memN t [0, 1, 2, 3, 7, 8, 9, 10, 11, 12, 13, 20, 24, 66, 76, 88, 104]
def Tryr70p_0 (fr : F) (h : Hp) : Out :=
  gtO (T.get fr (Pos.of 3)) fun v3 => bndO (oBox 155 v3 h) fun v7 h0 =>
  Out.nor (T.set (some (.bool false)) (Pos.of 9) (T.set (some (.str [])) (Pos.of 8) (T.set (some v7) (Pos.of 7) fr))) h0
def Tryr70p_1 (fr : F) (h : Hp) : Out :=
  gtO (T.get fr (Pos.of 0)) fun v0 => bndO (oBin .eql (.ptr 5) v0 .nilp h) fun v15 h1 =>
  ifB v15 (Out.nor (T.set (some (.bool true)) (Pos.of 13) fr) h1) (gtO (T.get fr (Pos.of 1)) fun v1 => bndO (oBin .eql (.ptr 16) v1 .nilp h1) fun v18 h4 =>
  Out.nor (T.set (some v18) (Pos.of 13) fr) h4)
def Tryr70p_2 (fr : F) (h : Hp) : Out :=
  Out.nor (T.set (some (.bool false)) (Pos.of 9) (T.set (some (.str [])) (Pos.of 8) fr)) h
def Tryr70p_3 (fr : F) (h : Hp) : Out :=
  gtO (T.get fr (Pos.of 7)) fun v7 => bndO (oFieldAddr 0 v7 h) fun v21 h0 =>
  bndO (oLoad1 v21 h0) fun v22 h1 =>
  bndO (oBin .eql .none v22 (.int .i64 2) h1) fun v23 h2 =>
  Out.nor (T.set (some v23) (Pos.of 20) fr) h2
def Tryr70p_4 (fr : F) (h : Hp) : Out :=
  Out.nor (T.set (some (.bool true)) (Pos.of 9) (T.set (some (.str [43, 32, 103, 111, 32, 111, 110, 13, 10])) (Pos.of 8) fr)) h
def Tryr70p_5 (fr : F) (h : Hp) : Out :=
  gtO (T.get fr (Pos.of 7)) fun v7 => bndO (oFieldAddr 0 v7 h) fun v25 h0 =>
  bndO (oLoad1 v25 h0) fun v26 h1 =>
  bndO (oBin .neq .none v26 (.int .i64 1) h1) fun v27 h2 =>
  ifB v27 (Out.nor (T.set (some (.bool true)) (Pos.of 24) fr) h2) (bndO (oFieldAddr 1 v7 h2) fun v29 h4 =>
  bndO (oLoad1 v29 h4) fun v30 h5 =>
  bndO (TryF157 [v30, (.int .i64 0)] h5) fun v31 h6 =>
  bndO (oUn .not v31 h6) fun v32 h7 =>
  ifB v32 (Out.nor (T.set (some (.bool true)) (Pos.of 24) fr) h7) (bndO (oFieldAddr 1 v7 h7) fun v35 h10 =>
  bndO (oLoad1 v35 h10) fun v36 h11 =>
  bndO (TryF157 [v36, (.int .i64 1)] h11) fun v37 h12 =>
  bndO (oUn .not v37 h12) fun v38 h13 =>
  Out.nor (T.set (some v38) (Pos.of 24) fr) h13))
def Tryr70p_6 (fr : F) (h : Hp) : Out :=
  Out.nor (T.set (some (.bool true)) (Pos.of 9) (T.set (some (.str [42, 32, 66, 65, 68, 32, 108, 105, 110, 101, 13, 10])) (Pos.of 8) fr)) h
def Tryr70p_7 (fr : F) (h : Hp) : Out :=
  gtO (T.get fr (Pos.of 0)) fun v0 => bndO (oNilCheck v0 h) fun v41 h1 =>
  bndO (oFieldAddr 3 v41 h1) fun v42 h2 =>
  bndO (TryF16w [v42, (.int .i64 1)] h2) fun v43 h3 =>
  Out.nor fr h3
def Tryr70p_8 (fr : F) (h : Hp) : Out :=
  gtO (T.get fr (Pos.of 0)) fun v0 => gtO (T.get fr (Pos.of 1)) fun v1 => gtO (T.get fr (Pos.of 2)) fun v2 => gtO (T.get fr (Pos.of 7)) fun v7 => bndO (oFieldAddr 1 v7 h) fun v47 h3 =>
  bndO (oLoad1 v47 h3) fun v48 h4 =>
  bndO (oSlice 3 v48 (some (.int .i64 2)) none none h4) fun v49 h5 =>
  bndO (oBuild [.nilp, .nilp, (.int .i64 0), .nils, (.bool false), .nilp, .nils] [(0, 1, v0), (1, 1, v1), (2, 1, v2), (3, 1, v49)] h5) fun v50 h6 =>
  bndO (oBox 194 v50 h6) fun v51 h7 =>
  Out.nor (T.set (some v51) (Pos.of 10) fr) h7
def Tryr70p_9 (fr : F) (h : Hp) : Out :=
  gtO (T.get fr (Pos.of 0)) fun v0 => gtO (T.get fr (Pos.of 10)) fun v10 => gtO (T.get fr (Pos.of 7)) fun v7 => bndO (oFieldAddr 1 v7 h) fun v54 h2 =>
  bndO (oLoad1 v54 h2) fun v55 h3 =>
  bndO (oIdxS 3 v55 (.int .i64 1) h3) fun v56 h4 =>
  bndO (oFieldAddr 1 v56 h4) fun v57 h5 =>
  bndO (oLoad1 v57 h5) fun v58 h6 =>
  bndO (TryF159 [v58] h6) fun v59 h7 =>
  bndO (TryF158p [v0, v10, v59] h7) fun v60 h8 =>
  bndO (oNew 192 [(.int .i64 0), (.str []), (.bool false), (.bool false), (.bool false)] h8) fun v11 h9 =>
  bndO (oStore 5 v11 v60 h9) fun _u10 h10 =>
  Out.nor (T.set (some v11) (Pos.of 11) fr) h10
def Tryr70p_10 (fr : F) (h : Hp) : Out :=
  gtO (T.get fr (Pos.of 7)) fun v7 => bndO (oFieldAddr 1 v7 h) fun v61 h0 =>
  bndO (oLoad1 v61 h0) fun v62 h1 =>
  bndO (oIdxS 3 v62 (.int .i64 0) h1) fun v63 h2 =>
  bndO (oFieldAddr 1 v63 h2) fun v64 h3 =>
  bndO (oLoad1 v64 h3) fun v65 h4 =>
  Out.nor (T.set (some v65) (Pos.of 12) fr) h4
def Tryr70p_11 (fr : F) (h : Hp) : Out :=
  gtO (T.get fr (Pos.of 11)) fun v11 => bndO (oFieldAddr 0 v11 h) fun v67 h0 =>
  bndO (oLoad1 v67 h0) fun v68 h1 =>
  bndO (oBin .eql .none v68 (.int .i64 1) h1) fun v69 h2 =>
  Out.nor (T.set (some v69) (Pos.of 66) fr) h2
def Tryr70p_12 (fr : F) (h : Hp) : Out :=
  gtO (T.get fr (Pos.of 12)) fun v12 => bndO (oBin .add .none v12 (.str [32, 78, 79, 32]) h) fun v71 h1 =>
  gtO (T.get fr (Pos.of 11)) fun v11 => bndO (oFieldAddr 1 v11 h1) fun v72 h2 =>
  bndO (oLoad1 v72 h2) fun v73 h3 =>
  bndO (oBin .add .none v71 v73 h3) fun v74 h4 =>
  bndO (oBin .add .none v74 (.str [13, 10]) h4) fun v75 h5 =>
  Out.nor (T.set (some (.bool true)) (Pos.of 9) (T.set (some v75) (Pos.of 8) fr)) h5
def Tryr70p_13 (fr : F) (h : Hp) : Out :=
  gtO (T.get fr (Pos.of 11)) fun v11 => bndO (oFieldAddr 0 v11 h) fun v77 h0 =>
  bndO (oLoad1 v77 h0) fun v78 h1 =>
  bndO (oBin .eql .none v78 (.int .i64 2) h1) fun v79 h2 =>
  Out.nor (T.set (some v79) (Pos.of 76) fr) h2
def Tryr70p_14 (fr : F) (h : Hp) : Out :=
  gtO (T.get fr (Pos.of 12)) fun v12 => bndO (oBin .add .none v12 (.str [32, 66, 65, 68, 32]) h) fun v81 h1 =>
  gtO (T.get fr (Pos.of 11)) fun v11 => bndO (oFieldAddr 1 v11 h1) fun v82 h2 =>
  bndO (oLoad1 v82 h2) fun v83 h3 =>
  bndO (oBin .add .none v81 v83 h3) fun v84 h4 =>
  bndO (oBin .add .none v84 (.str [13, 10]) h4) fun v85 h5 =>
  Out.nor (T.set (some (.bool true)) (Pos.of 9) (T.set (some v85) (Pos.of 8) fr)) h5
def Tryr70p_15 (fr : F) (h : Hp) : Out :=
  gtO (T.get fr (Pos.of 11)) fun v11 => bndO (oFieldAddr 3 v11 h) fun v86 h0 =>
  bndO (oLoad1 v86 h0) fun v87 h1 =>
  bndO (oUn .not v87 h1) fun v88 h2 =>
  Out.nor (T.set (some v88) (Pos.of 88) fr) h2
def Tryr70p_16 (fr : F) (h : Hp) : Out :=
  gtO (T.get fr (Pos.of 0)) fun w3_0 => bndO (oNilCheck w3_0 (bumpH 0 h)) fun v93 _ =>
  bndO (oFieldAddr 1 v93 (bumpH 0 h)) fun v94 _ =>
  bndO (oLoad1 v94 (bumpH 0 h)) fun v95 _ =>
  gtO (T.get fr (Pos.of 1)) fun w7_1 => gtO (T.get fr (Pos.of 11)) fun w8_11 => bndO (oFieldAddr 4 w8_11 (bumpH 0 h)) fun v97 _ =>
  bndO (oLoad1 v97 (bumpH 0 h)) fun v98 _ =>
  bndO (oUn .not v98 (bumpH 0 h)) fun v99 _ =>
  bndO (TryF161 [v95, w7_1, v99] (bumpH 0 h)) fun v100 h11 =>
  gtO (T.get fr (Pos.of 10)) fun w0_10 => bndO (oNilCheck w0_10 h11) fun v90 _ =>
  bndO (oFieldAddr 5 v90 h11) fun v91 _ =>
  bndO (TryF160 [v91, v100] h11) fun v101 h12 =>
  Out.nor fr h12
def Tryr70p_17 (fr : F) (h : Hp) : Out :=
  gtO (T.get fr (Pos.of 11)) fun v11 => bndO (oFieldAddr 1 v11 h) fun v102 h0 =>
  bndO (oLoad1 v102 h0) fun v103 h1 =>
  bndO (oBin .neq .none v103 (.str []) h1) fun v104 h2 =>
  Out.nor (T.set (some v104) (Pos.of 104) fr) h2
def Tryr70p_18 (fr : F) (h : Hp) : Out :=
  gtO (T.get fr (Pos.of 10)) fun v10 => gtO (T.get fr (Pos.of 12)) fun v12 => gtO (T.get fr (Pos.of 11)) fun v11 => bndO (oFieldAddr 1 v11 h) fun v107 h2 =>
  bndO (oLoad1 v107 h2) fun v108 h3 =>
  bndO (oBin .add .none (.str [91]) v108 h3) fun v109 h4 =>
  bndO (oBin .add .none v109 (.str [93]) h4) fun v110 h5 =>
  bndO (oBuildSlice 9 [(.str []), (.str []), (.str []), (.str [])] 4 [(0, 1, v12), (1, 1, (.str [79, 75])), (2, 1, v110), (3, 1, (.str [100, 111, 110, 101]))] h5) fun v111 h6 =>
  bndO (TryF98 [v10, v111] h6) fun v112 h7 =>
  Out.nor fr h7
def Tryr70p_19 (fr : F) (h : Hp) : Out :=
  gtO (T.get fr (Pos.of 10)) fun v10 => gtO (T.get fr (Pos.of 12)) fun v12 => bndO (oBuildSlice 9 [(.str []), (.str [])] 2 [(0, 1, v12), (1, 1, (.str [79, 75, 32, 100, 111, 110, 101]))] h) fun v115 h2 =>
  bndO (TryF98 [v10, v115] h2) fun v116 h3 =>
  Out.nor fr h3
def Tryr70p_20 (fr : F) (h : Hp) : Out :=
  gtO (T.get fr (Pos.of 10)) fun w0_10 => bndO (oNilCheck w0_10 (bumpH 0 h)) fun v118 _ =>
  bndO (oFieldAddr 5 v118 (bumpH 0 h)) fun v119 _ =>
  bndO (TryF88 [v119] (bumpH 0 h)) fun v120 h3 =>
  gtO (T.get fr (Pos.of 11)) fun w4_11 => bndO (oFieldAddr 2 w4_11 h3) fun v121 _ =>
  bndO (oLoad1 v121 h3) fun v122 _ => chk (fun h => oLoad1 v121 h) v122 (
  bndO (oUn .not v122 h3) fun v123 _ =>
  Out.nor (T.set (some v123) (Pos.of 9) (T.set (some v120) (Pos.of 8) fr)) h3) 1 [(bumpH 0 h)]
def Tryd70p : F → Hp → Out := (seqO Tryr70p_0 (seqO (blkO 0 (seqO Tryr70p_1 (cndX (.tmp 13) (seqO Tryr70p_2 Out.ret) (seqO Tryr70p_3 (cndX (.tmp 20) (seqO Tryr70p_4 Out.ret) (seqO Tryr70p_5 (cndX (.tmp 24) (seqO Tryr70p_6 Out.ret) Out.nor))))))) (seqO Tryr70p_7 (seqO Tryr70p_8 (seqO Tryr70p_9 (seqO Tryr70p_10 (seqO (blkO 1 (seqO Tryr70p_11 (cndX (.tmp 66) (seqO Tryr70p_12 Out.ret) (seqO Tryr70p_13 (cndX (.tmp 76) (seqO Tryr70p_14 Out.ret) Out.nor))))) (seqO (seqO Tryr70p_15 (cndX (.tmp 88) Tryr70p_16 Out.nor)) (seqO (seqO Tryr70p_17 (cndX (.tmp 104) Tryr70p_18 Tryr70p_19)) (seqO Tryr70p_20 Out.ret))))))))))
def Trye70p : FuncId → Option Fun := fun f => match Nat.beq f 157 with | true => some TryF157 | false => match Nat.beq f 16 with | true => some TryF16w | false => match Nat.beq f 159 with | true => some TryF159 | false => match Nat.beq f 158 with | true => some TryF158p | false => match Nat.beq f 161 with | true => some TryF161 | false => match Nat.beq f 160 with | true => some TryF160 | false => match Nat.beq f 98 with | true => some TryF98 | false => match Nat.beq f 88 with | true => some TryF88 | false => none
def Tryp70p : Plans := fun id => match Nat.beq id 16 with | true => some ([0, 1, 3, 0, 8, 24, 56, 0, 0, 256, 768, 2040, 4095], [(3, .pure), (4, .pure), (5, .pure), (6, .read 0), (7, .pure), (8, .pure), (9, .read 0), (10, .pure), (11, .heavy), (0, .pure), (1, .pure), (2, .pure), (12, .heavy)]) | false => match Nat.beq id 20 with | true => some ([0, 1, 3, 7, 0, 16, 48, 15, 255], [(0, .pure), (1, .pure), (2, .pure), (3, .heavy), (4, .pure), (5, .read 1), (6, .pure), (7, .pure), (8, .pure)]) | false => none
def TryF70p : Fun := funX Tryz.prog TryG Tryk70p Trye70p Tryp70p lf Tryz.f70
theorem TryD70p : denX Tryz.prog TryG Tryz.f70.ntmps Tryk70p Trye70p Tryp70p lf (codeOf Tryz.f70) = Tryd70p := by kernel_rfl
theorem TryF70p_eq (x0 x1 x2 x3 : V) (h : Hp) : TryF70p [x0, x1, x2, x3] h = outR Tryz.prog [.tmp 8, .tmp 9] (Tryd70p (T.set (some x3) (Pos.of 3) (T.set (some x2) (Pos.of 2) (T.set (some x1) (Pos.of 1) (T.set (some x0) (Pos.of 0) T.nil)))) h) := funX_eq (by kernel_rfl) TryD70p (by kernel_rfl) h
theorem Tryc70p : CallOk Tryz.prog TryG 70 TryF70p := funX_ok Trymix (callsOk_cons Tryc157 (callsOk_cons Tryc16w (callsOk_cons Tryc159 (callsOk_cons Tryc158p (callsOk_cons Tryc161 (callsOk_cons Tryc160 (callsOk_cons Tryc98 (callsOk_cons Tryc88 callsOk_0)))))))) Tryz.func70 (by kernel_rfl)
def Tryk32p : Nat → Bool := fun t => memN t [0, 1, 2, 6, 7, 9, 10, 11, 19, 20, 21, 22, 48]
def Tryr32p_0 (fr : F) (h : Hp) : Out :=
  Out.nor (T.set (some (.str [])) (Pos.of 6) fr) h
def Tryr32p_1 (fr : F) (h : Hp) : Out :=
  Out.nor (T.set (some (.str [])) (Pos.of 7) fr) h
def Tryr32p_2 (fr : F) (h : Hp) : Out :=
  gtO (T.get fr (Pos.of 1)) fun v1 => bndO (oNilCheck v1 h) fun v13 h1 =>
  bndO (oLoad1 v13 h1) fun v14 h2 =>
  bndO (oNilCheck v14 h2) fun v15 h3 =>
  bndO (oFieldAddr 1 v15 h3) fun v16 h4 =>
  bndO (oLoad1 v16 h4) fun v17 h5 =>
  gtO (T.get fr (Pos.of 2)) fun v2 => bndO (TryF69 [v17, v2] h5) fun v19 h7 =>
  bndO (oLenK 2 v19 h7) fun v20 h8 =>
  Out.nor (T.set (some (.int .i64 0)) (Pos.of 21) (T.set (some v20) (Pos.of 20) (T.set (some v19) (Pos.of 19) fr))) h8
def Tryr32p_3 (fr : F) (h : Hp) : Out :=
  gtO (T.get fr (Pos.of 21)) fun v21 => gtO (T.get fr (Pos.of 20)) fun v20 => bndO (oBin .lss .none v21 v20 h) fun v22 h0 =>
  Out.nor (T.set (some v22) (Pos.of 22) fr) h0
def Tryr32p_4 (fr : F) (h : Hp) : Out :=
  gtO (T.get fr (Pos.of 19)) fun v19 => gtO (T.get fr (Pos.of 21)) fun v21 => bndO (oIdxS 2 v19 v21 h) fun v23 h0 =>
  bndO (oLoadN 2 v23 h0) fun v24 h1 =>
  bndO (oNew 155 [(.int .i64 0), .nils] h1) fun v9 h2 =>
  bndO (oStore 2 v9 v24 h2) fun _u3 h3 =>
  Out.nor (T.set (some v9) (Pos.of 9) fr) h3
def Tryr32p_5 (fr : F) (h : Hp) : Out :=
  gtO (T.get fr (Pos.of 1)) fun w0_1 => bndO (oNilCheck w0_1 (bumpH 0 h)) fun v27 _ =>
  bndO (oLoad1 v27 (bumpH 0 h)) fun v28 _ =>
  bndO (oNilCheck v28 (bumpH 0 h)) fun v29 _ =>
  bndO (oFieldAddr 0 v29 (bumpH 0 h)) fun v30 _ =>
  bndO (oLoad1 v30 (bumpH 0 h)) fun v31 _ =>
  gtO (T.get fr (Pos.of 0)) fun w6_0 => bndO (oNilCheck w6_0 (bumpH 0 h)) fun v33 _ =>
  bndO (oFieldAddr 0 v33 (bumpH 0 h)) fun v34 _ =>
  bndO (oLoad1 v34 (bumpH 0 h)) fun v35 _ =>
  gtO (T.get fr (Pos.of 0)) fun w10_0 => bndO (oNilCheck w10_0 (bumpH 0 h)) fun v37 _ =>
  bndO (oFieldAddr 6 v37 (bumpH 0 h)) fun v38 _ =>
  bndO (oLoad1 v38 (bumpH 0 h)) fun v39 _ =>
  gtO (T.get fr (Pos.of 9)) fun w14_9 => bndO (oLoadN 2 w14_9 (bumpH 0 h)) fun v40 _ =>
  bndO (TryF70p [v31, v35, v39, v40] (bumpH 0 h)) fun v41 h15 =>
  bndO (oExtract 0 v41 h15) fun v42 _ =>
  bndO (oExtract 1 v41 h15) fun v43 _ =>
  Out.nor (T.set (some v43) (Pos.of 11) (T.set (some v42) (Pos.of 10) fr)) h15
def Tryr32p_6 (fr : F) (h : Hp) : Out :=
  gtO (T.get fr (Pos.of 7)) fun v7 => gtO (T.get fr (Pos.of 10)) fun v10 => bndO (oBin .add .none v7 v10 h) fun v46 h2 =>
  Out.nor (T.set (some v46) (Pos.of 7) fr) h2
def Tryr32p_7 (fr : F) (h : Hp) : Out :=
  gtO (T.get fr (Pos.of 11)) fun v11 => bndO (oUn .not v11 h) fun v48 h1 =>
  Out.nor (T.set (some v48) (Pos.of 48) fr) h1
def Tryr32p_8 (fr : F) (h : Hp) : Out :=
  gtO (T.get fr (Pos.of 1)) fun v1 => bndO (oNilCheck v1 h) fun v50 h1 =>
  bndO (oStore 1 v50 .nilp h1) fun _u2 h2 =>
  Out.nor fr h2
def Tryr32p_9 (fr : F) (h : Hp) : Out :=
  gtO (T.get fr (Pos.of 21)) fun v21 => bndO (oBin .add .none v21 (.int .i64 1) h) fun v51 h0 =>
  Out.nor (T.set (some v51) (Pos.of 21) fr) h0
def Tryr32p_10 (fr : F) (h : Hp) : Out :=
  gtO (T.get fr (Pos.of 7)) fun v7 => Out.nor (T.set (some v7) (Pos.of 6) fr) h
def Tryb32p_3 : F → Hp → Out := (seqO Tryr32p_3 (seqO (cndX (.tmp 22) Out.nor (Out.ex 0)) (seqO (blkO 1 (seqO Tryr32p_4 (seqO Tryr32p_5 (seqO Tryr32p_6 (seqO Tryr32p_7 (cndX (.tmp 48) (seqO Tryr32p_8 (Out.ex 0)) Out.nor)))))) Tryr32p_9)))
def Tryd32p : F → Hp → Out := (seqO Tryr32p_0 (seqO Tryr32p_1 (seqO (seqO Tryr32p_2 (blkO 0 (loopO Tryb32p_3 lf))) (seqO Tryr32p_10 Out.ret))))
def Trye32p : FuncId → Option Fun := fun f => match Nat.beq f 69 with | true => some TryF69 | false => match Nat.beq f 70 with | true => some TryF70p | false => none
def Tryp32p : Plans := fun id => match Nat.beq id 5 with | true => some ([0, 1, 3, 7, 15, 31, 0, 64, 192, 448, 0, 1024, 3072, 7168, 0, 32767, 65535, 131071, 131071, 262143, 1048575], [(0, .pure), (1, .pure), (2, .read 0), (3, .pure), (4, .pure), (5, .read 0), (6, .pure), (7, .pure), (8, .pure), (9, .read 0), (10, .pure), (11, .pure), (12, .pure), (13, .read 0), (14, .read 0), (15, .heavy), (16, .pure), (17, .pure), (18, .pure), (19, .pure), (20, .pure)]) | false => none
def TryF32p : Fun := funX Tryz.prog TryG Tryk32p Trye32p Tryp32p lf Tryz.f32
theorem TryD32p : denX Tryz.prog TryG Tryz.f32.ntmps Tryk32p Trye32p Tryp32p lf (codeOf Tryz.f32) = Tryd32p := by kernel_rfl
theorem TryF32p_eq (x0 x1 x2 : V) (h : Hp) : TryF32p [x0, x1, x2] h = outR Tryz.prog [.tmp 6] (Tryd32p (T.set (some x2) (Pos.of 2) (T.set (some x1) (Pos.of 1) (T.set (some x0) (Pos.of 0) T.nil))) h) := funX_eq (by kernel_rfl) TryD32p (by kernel_rfl) h
theorem Tryc32p : CallOk Tryz.prog TryG 32 TryF32p := funX_ok Trymix (callsOk_cons Tryc69 (callsOk_cons Tryc70p callsOk_0)) Tryz.func32 (by kernel_rfl)
def Tryk18p : Nat → Bool := fun t => memN t [0, 1, 3, 4, 5, 6, 14, 17, 40, 46]
def Tryr18p_0 (fr : F) (h : Hp) : Out :=
  gtO (T.get fr (Pos.of 1)) fun v1 => bndO (oBox 36 v1 h) fun v3 h0 =>
  Out.nor (T.set (some (.str [])) (Pos.of 4) (T.set (some v3) (Pos.of 3) fr)) h0
def Tryr18p_1 (fr : F) (h : Hp) : Out :=
  gtO (T.get fr (Pos.of 0)) fun v0 => gtO (T.get fr (Pos.of 3)) fun v3 => bndO (oFieldAddr 1 v3 h) fun v9 h1 =>
  bndO (oLoad1 v9 h1) fun v10 h2 =>
  bndO (TryF27 [v0, v10] h2) fun v11 h3 =>
  bndO (oExtract 0 v11 h3) fun v12 h5 =>
  bndO (oExtract 1 v11 h5) fun v13 h6 =>
  Out.nor (T.set (some v13) (Pos.of 6) (T.set (some v12) (Pos.of 5) fr)) h6
def Tryr18p_2 (fr : F) (h : Hp) : Out :=
  gtO (T.get fr (Pos.of 6)) fun v6 => bndO (oUn .not v6 h) fun v16 h1 =>
  Out.nor (T.set (some v16) (Pos.of 14) fr) h1
def Tryr18p_3 (fr : F) (h : Hp) : Out :=
  gtO (T.get fr (Pos.of 3)) fun v3 => bndO (oFieldAddr 0 v3 h) fun v18 h0 =>
  bndO (oLoad1 v18 h0) fun v19 h1 =>
  bndO (oBin .eql .none v19 (.int .i64 1) h1) fun v20 h2 =>
  ifB v20 (gtO (T.get fr (Pos.of 5)) fun v5 => bndO (oNilCheck v5 h2) fun v23 h5 =>
  bndO (oLoad1 v23 h5) fun v24 h6 =>
  bndO (oBin .eql (.ptr 2) v24 .nilp h6) fun v25 h7 =>
  Out.nor (T.set (some v25) (Pos.of 17) fr) h7) (Out.nor (T.set (some (.bool false)) (Pos.of 17) fr) h2)
def Tryr18p_4 (fr : F) (h : Hp) : Out :=
  bndO (TryF28 [] (bumpH 1 h)) fun v28 h1 =>
  gtO (T.get fr (Pos.of 0)) fun w2_0 => bndO (oNilCheck w2_0 h1) fun v30 _ =>
  bndO (oFieldAddr 0 v30 h1) fun v31 _ =>
  bndO (oLoad1 v31 h1) fun v32 _ => chk (fun h => oLoad1 v31 h) v32 (
  bndO (TryF30 [v32] h1) fun v33 h6 =>
  bndO (oPart false 1 4 v33 h6) fun v34 h7 =>
  bndO (TryF29 [v34] h7) fun v35 h8 =>
  gtO (T.get fr (Pos.of 5)) fun w0_5 => bndO (oBuild [.nilp, .nilp] [(0, 1, v28), (1, 1, v35)] h8) fun v36 _ =>
  alcO (aBox 110 v36) fun ob10 mk10 =>
  bndO (oNilCheck w0_5 h8) fun v38 _ =>
  bndO (oStore 1 v38 (mk10 (Hp.next h)) (Hp.put h8 (Hp.next h) (some ob10))) fun _u12 h12 =>
  Out.nor fr h12) 1 [(bumpH 1 h)]
def Tryr18p_5 (fr : F) (h : Hp) : Out :=
  bndO (TryF31 [] h) fun v39 h0 =>
  Out.nor (T.set (some v39) (Pos.of 4) fr) h0
def Tryr18p_6 (fr : F) (h : Hp) : Out :=
  gtO (T.get fr (Pos.of 3)) fun v3 => bndO (oFieldAddr 0 v3 h) fun v41 h0 =>
  bndO (oLoad1 v41 h0) fun v42 h1 =>
  bndO (oBin .eql .none v42 (.int .i64 2) h1) fun v43 h2 =>
  Out.nor (T.set (some v43) (Pos.of 40) fr) h2
def Tryr18p_7 (fr : F) (h : Hp) : Out :=
  gtO (T.get fr (Pos.of 5)) fun v5 => bndO (oNilCheck v5 h) fun v45 h1 =>
  bndO (oStore 1 v45 .nilp h1) fun _u2 h2 =>
  Out.nor fr h2
def Tryr18p_8 (fr : F) (h : Hp) : Out :=
  gtO (T.get fr (Pos.of 3)) fun v3 => bndO (oFieldAddr 0 v3 h) fun v47 h0 =>
  bndO (oLoad1 v47 h0) fun v48 h1 =>
  bndO (oBin .eql .none v48 (.int .i64 3) h1) fun v49 h2 =>
  ifB v49 (gtO (T.get fr (Pos.of 5)) fun v5 => bndO (oNilCheck v5 h2) fun v52 h5 =>
  bndO (oLoad1 v52 h5) fun v53 h6 =>
  bndO (oBin .neq (.ptr 2) v53 .nilp h6) fun v54 h7 =>
  Out.nor (T.set (some v54) (Pos.of 46) fr) h7) (Out.nor (T.set (some (.bool false)) (Pos.of 46) fr) h2)
def Tryr18p_9 (fr : F) (h : Hp) : Out :=
  gtO (T.get fr (Pos.of 0)) fun v0 => gtO (T.get fr (Pos.of 5)) fun v5 => gtO (T.get fr (Pos.of 3)) fun v3 => bndO (oFieldAddr 3 v3 h) fun v58 h2 =>
  bndO (oLoad1 v58 h2) fun v59 h3 =>
  bndO (TryF32p [v0, v5, v59] h3) fun v60 h4 =>
  Out.nor (T.set (some v60) (Pos.of 4) fr) h4
def Tryr18p_10 (fr : F) (h : Hp) : Out :=
  Out.nor (T.set (some (.str [])) (Pos.of 4) fr) h
def Tryd18p : F → Hp → Out := (seqO Tryr18p_0 (seqO Tryr18p_1 (seqO (blkO 0 (seqO Tryr18p_2 (cndX (.tmp 14) Out.nor (seqO Tryr18p_3 (cndX (.tmp 17) (seqO Tryr18p_4 (seqO Tryr18p_5 Out.ret)) (seqO Tryr18p_6 (cndX (.tmp 40) Tryr18p_7 (seqO Tryr18p_8 (cndX (.tmp 46) (seqO Tryr18p_9 Out.ret) Out.nor))))))))) (seqO Tryr18p_10 Out.ret))))
def Trye18p : FuncId → Option Fun := fun f => match Nat.beq f 27 with | true => some TryF27 | false => match Nat.beq f 28 with | true => some TryF28 | false => match Nat.beq f 30 with | true => some TryF30 | false => match Nat.beq f 29 with | true => some TryF29 | false => match Nat.beq f 31 with | true => some TryF31 | false => match Nat.beq f 32 with | true => some TryF32p | false => none
def Tryp18p : Plans := fun id => match Nat.beq id 4 with | true => some ([0, 0, 0, 4, 12, 28, 62, 126, 254, 510, 1022, 2047, 4095], [(1, .heavy), (2, .pure), (3, .pure), (4, .pure), (5, .read 1), (6, .heavy), (7, .heavy), (8, .heavy), (0, .pure), (9, .pure), (10, .alloc), (11, .pure), (12, .heavy)]) | false => none
def TryF18p : Fun := funX Tryz.prog TryG Tryk18p Trye18p Tryp18p lf Tryz.f18
theorem TryD18p : denX Tryz.prog TryG Tryz.f18.ntmps Tryk18p Trye18p Tryp18p lf (codeOf Tryz.f18) = Tryd18p := by kernel_rfl
theorem TryF18p_eq (x0 x1 : V) (h : Hp) : TryF18p [x0, x1] h = outR Tryz.prog [.tmp 4] (Tryd18p (T.set (some x1) (Pos.of 1) (T.set (some x0) (Pos.of 0) T.nil)) h) := funX_eq (by kernel_rfl) TryD18p (by kernel_rfl) h
theorem Tryc18p : CallOk Tryz.prog TryG 18 TryF18p := funX_ok Trymix (callsOk_cons Tryc27 (callsOk_cons Tryc28 (callsOk_cons Tryc30 (callsOk_cons Tryc29 (callsOk_cons Tryc31 (callsOk_cons Tryc32p callsOk_0)))))) Tryz.func18 (by kernel_rfl)
def Tryk9p : Nat → Bool := fun t => memN t [0, 1, 3, 4, 6, 12, 13, 23, 32, 46]
def Tryr9p_0 (fr : F) (h : Hp) : Out :=
  gtO (T.get fr (Pos.of 1)) fun v1 => bndO (oBox 36 v1 h) fun v3 h0 =>
  Out.nor (T.set (some .nils) (Pos.of 4) (T.set (some v3) (Pos.of 3) fr)) h0
def Tryr9p_1 (fr : F) (h : Hp) : Out :=
  gtO (T.get fr (Pos.of 0)) fun v0 => bndO (oBin .eql (.ptr 8) v0 .nilp h) fun v6 h1 =>
  Out.nor (T.set (some v6) (Pos.of 6) fr) h1
def Tryr9p_2 (fr : F) (h : Hp) : Out :=
  Out.nor (T.set (some .nils) (Pos.of 4) fr) h
def Tryr9p_3 (fr : F) (h : Hp) : Out :=
  gtO (T.get fr (Pos.of 0)) fun v0 => bndO (oNilCheck v0 h) fun v8 h1 =>
  bndO (oFieldAddr 7 v8 h1) fun v9 h2 =>
  bndO (TryF16w [v9, (.int .i64 1)] h2) fun v10 h3 =>
  Out.nor fr h3
def Tryr9p_4 (fr : F) (h : Hp) : Out :=
  gtO (T.get fr (Pos.of 3)) fun v3 => bndO (oFieldAddr 0 v3 h) fun v11 h0 =>
  bndO (oLoad1 v11 h0) fun v12 h1 =>
  Out.nor (T.set (some v12) (Pos.of 12) fr) h1
def Tryr9p_5 (fr : F) (h : Hp) : Out :=
  gtO (T.get fr (Pos.of 12)) fun v12 => bndO (oBin .eql .none v12 (.int .i64 1) h) fun v14 h0 =>
  Out.nor (T.set (some v14) (Pos.of 13) fr) h0
def Tryr9p_6 (fr : F) (h : Hp) : Out :=
  gtO (T.get fr (Pos.of 12)) fun v12 => bndO (oBin .eql .none v12 (.int .i64 2) h) fun v15 h0 =>
  Out.nor (T.set (some v15) (Pos.of 13) fr) h0
def Tryr9p_7 (fr : F) (h : Hp) : Out :=
  gtO (T.get fr (Pos.of 12)) fun v12 => bndO (oBin .eql .none v12 (.int .i64 3) h) fun v16 h0 =>
  Out.nor (T.set (some v16) (Pos.of 13) fr) h0
def Tryr9p_8 (fr : F) (h : Hp) : Out :=
  gtO (T.get fr (Pos.of 0)) fun w2_0 => gtO (T.get fr (Pos.of 3)) fun w3_3 => bndO (oLoadN 4 w3_3 (bumpH 0 h)) fun v20 _ =>
  bndO (TryF18p [w2_0, v20] (bumpH 0 h)) fun v21 h4 =>
  gtO (T.get fr (Pos.of 3)) fun w0_3 => bndO (oFieldAddr 1 w0_3 h4) fun v17 _ =>
  bndO (oLoad1 v17 h4) fun v18 _ => chk (fun h => oLoad1 v17 h) v18 (
  bndO (TryF17 [v18, v21] h4) fun v22 h5 =>
  Out.nor (T.set (some v22) (Pos.of 4) fr) h5) 1 [(bumpH 0 h)]
def Tryr9p_9 (fr : F) (h : Hp) : Out :=
  gtO (T.get fr (Pos.of 12)) fun v12 => bndO (oBin .eql .none v12 (.int .i64 4) h) fun v24 h0 =>
  Out.nor (T.set (some v24) (Pos.of 23) fr) h0
def Tryr9p_10 (fr : F) (h : Hp) : Out :=
  gtO (T.get fr (Pos.of 3)) fun w0_3 => bndO (oFieldAddr 2 w0_3 (bumpH 0 h)) fun v25 _ =>
  bndO (oLoad1 v25 (bumpH 0 h)) fun v26 _ =>
  gtO (T.get fr (Pos.of 0)) fun w2_0 => bndO (oNilCheck w2_0 (bumpH 0 h)) fun v28 _ =>
  bndO (oFieldAddr 6 v28 (bumpH 0 h)) fun v29 _ =>
  bndO (oLoad1 v29 (bumpH 0 h)) fun v30 _ =>
  bndO (oBin .sub .none (.int .i64 253402300799) v30 (bumpH 0 h)) fun v31 _ =>
  bndO (oBin .gtr .none v26 v31 (bumpH 0 h)) fun v32 _ =>
  Out.nor (T.set (some v32) (Pos.of 32) fr) (bumpH 0 h)
def Tryr9p_11 (fr : F) (h : Hp) : Out :=
  gtO (T.get fr (Pos.of 0)) fun v0 => bndO (oNilCheck v0 h) fun v34 h1 =>
  bndO (oFieldAddr 6 v34 h1) fun v35 h2 =>
  bndO (oStore 1 v35 (.int .i64 253402300799) h2) fun _u3 h3 =>
  Out.nor fr h3
def Tryr9p_12 (fr : F) (h : Hp) : Out :=
  gtO (T.get fr (Pos.of 0)) fun w0_0 => bndO (oNilCheck w0_0 (bumpH 0 h)) fun v37 _ =>
  bndO (oFieldAddr 6 v37 (bumpH 0 h)) fun v38 _ =>
  bndO (oLoad1 v38 (bumpH 0 h)) fun v39 _ =>
  gtO (T.get fr (Pos.of 3)) fun w4_3 => bndO (oFieldAddr 2 w4_3 (bumpH 0 h)) fun v40 _ =>
  bndO (oLoad1 v40 (bumpH 0 h)) fun v41 _ =>
  bndO (oMax v41 (.int .i64 0) (bumpH 0 h)) fun v42 _ =>
  bndO (oBin .add .none v39 v42 (bumpH 0 h)) fun v43 _ =>
  bndO (oNilCheck w0_0 (bumpH 0 h)) fun v44 _ =>
  bndO (oFieldAddr 6 v44 (bumpH 0 h)) fun v45 _ =>
  bndO (oStore 1 v45 v43 (bumpH 0 h)) fun _u10 h10 =>
  Out.nor fr h10
def Tryr9p_13 (fr : F) (h : Hp) : Out :=
  gtO (T.get fr (Pos.of 12)) fun v12 => bndO (oBin .eql .none v12 (.int .i64 5) h) fun v47 h0 =>
  Out.nor (T.set (some v47) (Pos.of 46) fr) h0
def Tryr9p_14 (fr : F) (h : Hp) : Out :=
  gtO (T.get fr (Pos.of 0)) fun w0_0 => bndO (oNilCheck w0_0 (bumpH 0 h)) fun v49 _ =>
  bndO (oFieldAddr 1 v49 (bumpH 0 h)) fun v50 _ =>
  bndO (oLoad1 v50 (bumpH 0 h)) fun v51 _ =>
  gtO (T.get fr (Pos.of 0)) fun w4_0 => bndO (oNilCheck w4_0 (bumpH 0 h)) fun v53 _ =>
  bndO (oFieldAddr 0 v53 (bumpH 0 h)) fun v54 _ =>
  bndO (oLoad1 v54 (bumpH 0 h)) fun v55 _ =>
  gtO (T.get fr (Pos.of 0)) fun w8_0 => bndO (oNilCheck w8_0 (bumpH 0 h)) fun v57 _ =>
  bndO (oFieldAddr 6 v57 (bumpH 0 h)) fun v58 _ =>
  bndO (oLoad1 v58 (bumpH 0 h)) fun v59 _ =>
  gtO (T.get fr (Pos.of 3)) fun w12_3 => bndO (oFieldAddr 3 w12_3 (bumpH 0 h)) fun v60 _ =>
  bndO (oLoad1 v60 (bumpH 0 h)) fun v61 _ =>
  bndO (TryF19 [v51, v55, v59, v61] (bumpH 0 h)) fun v62 h14 =>
  bndO (TryF17 [(.int .i64 (-1)), v62] h14) fun v63 h15 =>
  Out.nor (T.set (some v63) (Pos.of 4) fr) h15
def Tryr9p_15 (fr : F) (h : Hp) : Out :=
  Out.nor (T.set (some .nils) (Pos.of 4) fr) h
def Tryd9p : F → Hp → Out := (seqO Tryr9p_0 (seqO (seqO Tryr9p_1 (cndX (.tmp 6) (seqO Tryr9p_2 Out.ret) Out.nor)) (seqO Tryr9p_3 (seqO (seqO Tryr9p_4 (blkO 0 (seqO (seqO Tryr9p_5 (cndX (.tmp 13) Out.nor (seqO Tryr9p_6 (cndX (.tmp 13) Out.nor Tryr9p_7)))) (cndX (.tmp 13) (seqO Tryr9p_8 Out.ret) (seqO Tryr9p_9 (cndX (.tmp 23) (seqO Tryr9p_10 (cndX (.tmp 32) Tryr9p_11 Tryr9p_12)) (seqO Tryr9p_13 (cndX (.tmp 46) (seqO Tryr9p_14 Out.ret) Out.nor)))))))) (seqO Tryr9p_15 Out.ret)))))
def Trye9p : FuncId → Option Fun := fun f => match Nat.beq f 16 with | true => some TryF16w | false => match Nat.beq f 18 with | true => some TryF18p | false => match Nat.beq f 17 with | true => some TryF17 | false => match Nat.beq f 19 with | true => some TryF19 | false => none
def Tryp9p : Plans := fun id => match Nat.beq id 8 with | true => some ([0, 1, 0, 0, 12, 31, 63], [(2, .pure), (3, .read 0), (4, .heavy), (0, .pure), (1, .read 1), (5, .heavy), (6, .pure)]) | false => match Nat.beq id 10 with | true => some ([0, 1, 0, 4, 12, 28, 60, 127], [(0, .pure), (1, .read 0), (2, .pure), (3, .pure), (4, .pure), (5, .read 0), (6, .pure), (7, .pure)]) | false => match Nat.beq id 12 with | true => some ([0, 1, 3, 7, 0, 16, 48, 127, 255, 511, 1023], [(0, .pure), (1, .pure), (2, .pure), (3, .read 0), (4, .pure), (5, .read 0), (6, .pure), (7, .pure), (8, .pure), (9, .pure), (10, .heavy)]) | false => match Nat.beq id 14 with | true => some ([0, 1, 3, 7, 0, 16, 48, 112, 0, 256, 768, 1792, 0, 4096, 16383, 32767, 65535], [(0, .pure), (1, .pure), (2, .pure), (3, .read 0), (4, .pure), (5, .pure), (6, .pure), (7, .read 0), (8, .pure), (9, .pure), (10, .pure), (11, .read 0), (12, .pure), (13, .read 0), (14, .heavy), (15, .heavy), (16, .pure)]) | false => none
def TryF9p : Fun := funX Tryz.prog TryG Tryk9p Trye9p Tryp9p lf Tryz.f9
theorem TryD9p : denX Tryz.prog TryG Tryz.f9.ntmps Tryk9p Trye9p Tryp9p lf (codeOf Tryz.f9) = Tryd9p := by kernel_rfl
theorem TryF9p_eq (x0 x1 : V) (h : Hp) : TryF9p [x0, x1] h = outR Tryz.prog [.tmp 4] (Tryd9p (T.set (some x1) (Pos.of 1) (T.set (some x0) (Pos.of 0) T.nil)) h) := funX_eq (by kernel_rfl) TryD9p (by kernel_rfl) h
theorem Tryc9p : CallOk Tryz.prog TryG 9 TryF9p := funX_ok Trymix (callsOk_cons Tryc16w (callsOk_cons Tryc18p (callsOk_cons Tryc17 (callsOk_cons Tryc19 callsOk_0)))) Tryz.func9 (by kernel_rfl)
def Tryk10p : Nat → Bool := fun t => memN t [0, 1, 4, 5, 15]
def Tryr10p_0 (fr : F) (h : Hp) : Out :=
  Out.nor (T.set (some (.str [])) (Pos.of 4) fr) h
def Tryr10p_1 (fr : F) (h : Hp) : Out :=
  gtO (T.get fr (Pos.of 0)) fun v0 => bndO (oBuild [(.int .i64 0), (.int .i64 0), (.int .i64 0), .nils] [(0, 1, (.int .i64 1))] h) fun v7 h1 =>
  bndO (TryF9p [v0, v7] h1) fun v8 h2 =>
  Out.nor fr h2
def Tryr10p_2 (fr : F) (h : Hp) : Out :=
  gtO (T.get fr (Pos.of 0)) fun v0 => gtO (T.get fr (Pos.of 1)) fun v1 => bndO (oBuild [(.int .i64 0), (.int .i64 0), (.int .i64 0), .nils] [(0, 1, (.int .i64 3)), (3, 1, v1)] h) fun v11 h2 =>
  bndO (TryF9p [v0, v11] h2) fun v12 h3 =>
  Out.nor (T.set (some v12) (Pos.of 5) fr) h3
def Tryr10p_3 (fr : F) (h : Hp) : Out :=
  gtO (T.get fr (Pos.of 5)) fun v5 => bndO (oLenK 2 v5 h) fun v14 h1 =>
  bndO (oBin .neq .none v14 (.int .i64 1) h1) fun v15 h2 =>
  Out.nor (T.set (some v15) (Pos.of 15) fr) h2
def Tryr10p_4 (fr : F) (h : Hp) : Out :=
  Out.nor (T.set (some (.str [])) (Pos.of 4) fr) h
def Tryr10p_5 (fr : F) (h : Hp) : Out :=
  gtO (T.get fr (Pos.of 5)) fun v5 => bndO (oIdxS 2 v5 (.int .i64 0) h) fun v17 h1 =>
  bndO (oFieldAddr 1 v17 h1) fun v18 h2 =>
  bndO (oLoad1 v18 h2) fun v19 h3 =>
  Out.nor (T.set (some v19) (Pos.of 4) fr) h3
def Tryd10p : F → Hp → Out := (seqO Tryr10p_0 (seqO Tryr10p_1 (seqO Tryr10p_2 (seqO (seqO Tryr10p_3 (cndX (.tmp 15) (seqO Tryr10p_4 Out.ret) Out.nor)) (seqO Tryr10p_5 Out.ret)))))
def Trye10p : FuncId → Option Fun := fun f => match Nat.beq f 9 with | true => some TryF9p | false => none
def Tryp10p : Plans := fun id => none
def TryF10p : Fun := funX Tryz.prog TryG Tryk10p Trye10p Tryp10p lf Tryz.f10
theorem TryD10p : denX Tryz.prog TryG Tryz.f10.ntmps Tryk10p Trye10p Tryp10p lf (codeOf Tryz.f10) = Tryd10p := by kernel_rfl
theorem TryF10p_eq (x0 x1 : V) (h : Hp) : TryF10p [x0, x1] h = outR Tryz.prog [.tmp 4] (Tryd10p (T.set (some x1) (Pos.of 1) (T.set (some x0) (Pos.of 0) T.nil)) h) := funX_eq (by kernel_rfl) TryD10p (by kernel_rfl) h
theorem Tryc10p : CallOk Tryz.prog TryG 10 TryF10p := funX_ok Trymix (callsOk_cons Tryc9p callsOk_0) Tryz.func10 (by kernel_rfl)
end Go.Proofs.ImT
