/- Part of the value machine, or of a walk by it: lemmas that the claim's last text uses. No conditions. -/
import Derived.Test.YtfaolchpaooboaaGreatDoorJfJmA
import Derived.KernelRfl
import Derived.Test.YtfaolchpaooboaaGreatDoorJfVmO
import Derived.Test.YtfaolchpaooboaaGreatDoorJfVmS
import Derived.Test.YtfaolchpaooboaaGreatDoorJfVmE
import Derived.Test.YtfaolchpaooboaaGreatDoorJfVmH
import Derived.Test.YtfaolchpaooboaaGreatDoorJfVmJ
import Derived.Test.YtfaolchpaooboaaGreatDoorJfVmK
import Derived.Test.YtfaolchpaooboaaGreatDoorJfVmM
set_option linter.unusedVariables false
set_option linter.unusedSimpArgs false
set_option linter.unnecessarySimpa false
noncomputable section
namespace Go.Proofs.Jm
open Go Go.Proofs Go.Vm
set_option linter.unusedVariables false
set_option linter.unusedSimpArgs false
set_option maxRecDepth 100000
set_option maxHeartbeats 4000000
def JmF345 : Fun := sameF
theorem Jmc345 : CallOk Tryz.prog TryG 345 JmF345 := sameF_ok Tryz.func345 (by kernel_rfl) (by kernel_rfl) (by kernel_rfl) (by kernel_rfl)
def Jmk256 : Nat → Bool := fun t => memN t [0, 6, 19]
def Jmr256_0 (fr : F) (h : Hp) : Out :=
  gtO (T.get fr (Pos.of 0)) fun v0 => bndO (oNilCheck v0 h) fun v3 h1 =>
  bndO (oFieldAddr 0 v3 h1) fun v4 h2 =>
  bndO (oLoad1 v4 h2) fun v5 h3 =>
  bndO (oBin .eql (.ptr 2) v5 .nilp h3) fun v6 h4 =>
  Out.nor (T.set (some v6) (Pos.of 6) fr) h4
def Jmr256_1 (fr : F) (h : Hp) : Out :=
  gtO (T.get fr (Pos.of 0)) fun v0 => bndO (oToU v0 h) fun v9 h2 =>
  bndO (JmF345 [v9] h2) fun v10 h3 =>
  bndO (dFromU Tryz.prog 210 v10 h3) fun v11 h4 =>
  bndO (oNilCheck v0 h4) fun v12 h5 =>
  bndO (oFieldAddr 0 v12 h5) fun v13 h6 =>
  bndO (oStore 1 v13 v11 h6) fun _u7 h7 =>
  Out.nor fr h7
def Jmr256_2 (fr : F) (h : Hp) : Out :=
  gtO (T.get fr (Pos.of 0)) fun v0 => bndO (oNilCheck v0 h) fun v15 h1 =>
  bndO (oFieldAddr 0 v15 h1) fun v16 h2 =>
  bndO (oLoad1 v16 h2) fun v17 h3 =>
  bndO (oBin .neq (.ptr 2) v17 v0 h3) fun v19 h5 =>
  Out.nor (T.set (some v19) (Pos.of 19) fr) h5
def Jmd256 : F → Hp → Out := (seqO Jmr256_0 (cndX (.tmp 6) Jmr256_1 (seqO Jmr256_2 (cndX (.tmp 19) badO Out.nor))))
def Jme256 : FuncId → Option Fun := fun f => match Nat.beq f 345 with | true => some JmF345 | false => none
def Jmp256 : Plans := fun id => none
def JmF256 : Fun := funX Tryz.prog TryG Jmk256 Jme256 Jmp256 lf Tryz.f256
theorem JmD256 : denX Tryz.prog TryG Tryz.f256.ntmps Jmk256 Jme256 Jmp256 lf (codeOf Tryz.f256) = Jmd256 := by kernel_rfl
theorem JmF256_eq (x0 : V) (h : Hp) : JmF256 [x0] h = outR Tryz.prog [] (Jmd256 (T.set (some x0) (Pos.of 0) T.nil) h) := funX_eq (by kernel_rfl) JmD256 (by kernel_rfl) h
theorem Jmc256 : CallOk Tryz.prog TryG 256 JmF256 := funX_ok Trymix (callsOk_cons Jmc345 callsOk_0) Tryz.func256 (by kernel_rfl)
def Jmk258 : Nat → Bool := fun t => memN t [0, 1, 4]
def Jmr258_0 (fr : F) (h : Hp) : Out :=
  Out.nor (T.set (some .nili) (Pos.of 4) fr) h
def Jmr258_1 (fr : F) (h : Hp) : Out :=
  gtO (T.get fr (Pos.of 0)) fun v0 => bndO (JmF256 [v0] h) fun v6 h1 =>
  Out.nor fr h1
def Jmr258_2 (fr : F) (h : Hp) : Out :=
  gtO (T.get fr (Pos.of 0)) fun v0 => bndO (oNilCheck v0 h) fun v9 h2 =>
  bndO (oFieldAddr 1 v9 h2) fun v10 h3 =>
  bndO (oLoad1 v10 h3) fun v11 h4 =>
  gtO (T.get fr (Pos.of 1)) fun v1 => bndO (oBuildSlice 5 [(.int .u8 0)] 1 [(0, 1, v1)] h4) fun v13 h6 =>
  bndO (oAppend 5 1 1 v11 v13 h6) fun v14 h7 =>
  bndO (oNilCheck v0 h7) fun v15 h8 =>
  bndO (oFieldAddr 1 v15 h8) fun v16 h9 =>
  bndO (oStore 1 v16 v14 h9) fun _u10 h10 =>
  Out.nor fr h10
def Jmr258_3 (fr : F) (h : Hp) : Out :=
  Out.nor (T.set (some .nili) (Pos.of 4) fr) h
def Jmd258 : F → Hp → Out := (seqO Jmr258_0 (seqO Jmr258_1 (seqO Jmr258_2 (seqO Jmr258_3 Out.ret))))
def Jme258 : FuncId → Option Fun := fun f => match Nat.beq f 256 with | true => some JmF256 | false => none
def Jmp258 : Plans := fun id => none
def JmF258 : Fun := funX Tryz.prog TryG Jmk258 Jme258 Jmp258 lf Tryz.f258
theorem JmD258 : denX Tryz.prog TryG Tryz.f258.ntmps Jmk258 Jme258 Jmp258 lf (codeOf Tryz.f258) = Jmd258 := by kernel_rfl
theorem JmF258_eq (x0 x1 : V) (h : Hp) : JmF258 [x0, x1] h = outR Tryz.prog [.tmp 4] (Jmd258 (T.set (some x1) (Pos.of 1) (T.set (some x0) (Pos.of 0) T.nil)) h) := funX_eq (by kernel_rfl) JmD258 (by kernel_rfl) h
theorem Jmc258 : CallOk Tryz.prog TryG 258 JmF258 := funX_ok Trymix (callsOk_cons Jmc256 callsOk_0) Tryz.func258 (by kernel_rfl)
def JmF201 : Fun := fun _ _ => .bad
theorem Jmc201 : CallOk Tryz.prog TryG 201 JmF201 := fun _ _ _ _ _ _ _ e => by cases e
def Jmk203 : Nat → Bool := fun t => memN t [0, 1, 4, 5, 11, 12, 13, 36, 52, 60, 67, 74, 81, 88]
def Jmr203_0 (fr : F) (h : Hp) : Out :=
  gtO (T.get fr (Pos.of 0)) fun v0 => bndO (oNilCheck v0 h) fun v7 h1 =>
  bndO (oFieldAddr 0 v7 h1) fun v8 h2 =>
  bndO (JmF258 [v8, (.int .u8 34)] h2) fun v9 h3 =>
  Out.nor fr h3
def Jmr203_1 (fr : F) (h : Hp) : Out :=
  gtO (T.get fr (Pos.of 1)) fun v1 => bndO (oLenK 1 v1 h) fun v11 h1 =>
  Out.nor (T.set (some (.int .i64 0)) (Pos.of 12) (T.set (some v11) (Pos.of 11) fr)) h1
def Jmr203_2 (fr : F) (h : Hp) : Out :=
  gtO (T.get fr (Pos.of 12)) fun v12 => gtO (T.get fr (Pos.of 11)) fun v11 => bndO (oBin .lss .none v12 v11 h) fun v13 h0 =>
  Out.nor (T.set (some v13) (Pos.of 13) fr) h0
def Jmr203_3 (fr : F) (h : Hp) : Out :=
  gtO (T.get fr (Pos.of 12)) fun v12 => Out.nor (T.set (some v12) (Pos.of 4) fr) h
def Jmr203_4 (fr : F) (h : Hp) : Out :=
  gtO (T.get fr (Pos.of 1)) fun v1 => gtO (T.get fr (Pos.of 4)) fun v4 => bndO (oIdxStr v1 v4 h) fun v17 h2 =>
  Out.nor (T.set (some v17) (Pos.of 5) fr) h2
def Jmr203_8 (fr : F) (h : Hp) : Out :=
  gtO (T.get fr (Pos.of 5)) fun v5 => bndO (oBin .eql .none v5 (.int .u8 34) h) fun v38 h1 =>
  ifB v38 (Out.nor (T.set (some (.bool true)) (Pos.of 36) fr) h1) (bndO (oBin .eql .none v5 (.int .u8 92) h1) fun v41 h4 =>
  Out.nor (T.set (some v41) (Pos.of 36) fr) h4)
def Jmr203_9 (fr : F) (h : Hp) : Out :=
  gtO (T.get fr (Pos.of 0)) fun v0 => bndO (oNilCheck v0 h) fun v44 h1 =>
  bndO (oFieldAddr 0 v44 h1) fun v45 h2 =>
  bndO (JmF258 [v45, (.int .u8 92)] h2) fun v46 h3 =>
  Out.nor fr h3
def Jmr203_10 (fr : F) (h : Hp) : Out :=
  gtO (T.get fr (Pos.of 0)) fun v0 => bndO (oNilCheck v0 h) fun v48 h1 =>
  bndO (oFieldAddr 0 v48 h1) fun v49 h2 =>
  gtO (T.get fr (Pos.of 5)) fun v5 => bndO (JmF258 [v49, v5] h2) fun v51 h4 =>
  Out.nor fr h4
def Jmr203_11 (fr : F) (h : Hp) : Out :=
  gtO (T.get fr (Pos.of 5)) fun v5 => bndO (oBin .geq .none v5 (.int .u8 32) h) fun v54 h1 =>
  Out.nor (T.set (some v54) (Pos.of 52) fr) h1
def Jmr203_12 (fr : F) (h : Hp) : Out :=
  gtO (T.get fr (Pos.of 0)) fun v0 => bndO (oNilCheck v0 h) fun v56 h1 =>
  bndO (oFieldAddr 0 v56 h1) fun v57 h2 =>
  gtO (T.get fr (Pos.of 5)) fun v5 => bndO (JmF258 [v57, v5] h2) fun v59 h4 =>
  Out.nor fr h4
def Jmr203_13 (fr : F) (h : Hp) : Out :=
  gtO (T.get fr (Pos.of 5)) fun v5 => bndO (oBin .eql .none v5 (.int .u8 8) h) fun v62 h1 =>
  Out.nor (T.set (some v62) (Pos.of 60) fr) h1
def Jmr203_14 (fr : F) (h : Hp) : Out :=
  gtO (T.get fr (Pos.of 0)) fun v0 => bndO (oNilCheck v0 h) fun v64 h1 =>
  bndO (oFieldAddr 0 v64 h1) fun v65 h2 =>
  bndO (JmF201 [v65, (.str [92, 98])] h2) fun v66 h3 =>
  Out.nor fr h3
def Jmr203_15 (fr : F) (h : Hp) : Out :=
  gtO (T.get fr (Pos.of 5)) fun v5 => bndO (oBin .eql .none v5 (.int .u8 9) h) fun v69 h1 =>
  Out.nor (T.set (some v69) (Pos.of 67) fr) h1
def Jmr203_16 (fr : F) (h : Hp) : Out :=
  gtO (T.get fr (Pos.of 0)) fun v0 => bndO (oNilCheck v0 h) fun v71 h1 =>
  bndO (oFieldAddr 0 v71 h1) fun v72 h2 =>
  bndO (JmF201 [v72, (.str [92, 116])] h2) fun v73 h3 =>
  Out.nor fr h3
def Jmr203_17 (fr : F) (h : Hp) : Out :=
  gtO (T.get fr (Pos.of 5)) fun v5 => bndO (oBin .eql .none v5 (.int .u8 10) h) fun v76 h1 =>
  Out.nor (T.set (some v76) (Pos.of 74) fr) h1
def Jmr203_18 (fr : F) (h : Hp) : Out :=
  gtO (T.get fr (Pos.of 0)) fun v0 => bndO (oNilCheck v0 h) fun v78 h1 =>
  bndO (oFieldAddr 0 v78 h1) fun v79 h2 =>
  bndO (JmF201 [v79, (.str [92, 110])] h2) fun v80 h3 =>
  Out.nor fr h3
def Jmr203_19 (fr : F) (h : Hp) : Out :=
  gtO (T.get fr (Pos.of 5)) fun v5 => bndO (oBin .eql .none v5 (.int .u8 12) h) fun v83 h1 =>
  Out.nor (T.set (some v83) (Pos.of 81) fr) h1
def Jmr203_20 (fr : F) (h : Hp) : Out :=
  gtO (T.get fr (Pos.of 0)) fun v0 => bndO (oNilCheck v0 h) fun v85 h1 =>
  bndO (oFieldAddr 0 v85 h1) fun v86 h2 =>
  bndO (JmF201 [v86, (.str [92, 102])] h2) fun v87 h3 =>
  Out.nor fr h3
def Jmr203_21 (fr : F) (h : Hp) : Out :=
  gtO (T.get fr (Pos.of 5)) fun v5 => bndO (oBin .eql .none v5 (.int .u8 13) h) fun v90 h1 =>
  Out.nor (T.set (some v90) (Pos.of 88) fr) h1
def Jmr203_22 (fr : F) (h : Hp) : Out :=
  gtO (T.get fr (Pos.of 0)) fun v0 => bndO (oNilCheck v0 h) fun v92 h1 =>
  bndO (oFieldAddr 0 v92 h1) fun v93 h2 =>
  bndO (JmF201 [v93, (.str [92, 114])] h2) fun v94 h3 =>
  Out.nor fr h3
def Jmr203_5 (fr : F) (h : Hp) : Out :=
  gtO (T.get fr (Pos.of 0)) fun v0 => bndO (oNilCheck v0 h) fun v19 h1 =>
  bndO (oFieldAddr 0 v19 h1) fun v20 h2 =>
  bndO (JmF201 [v20, (.str [92, 117, 48, 48])] h2) fun v21 h3 =>
  Out.nor fr h3
def Jmr203_6 (fr : F) (h : Hp) : Out :=
  gtO (T.get fr (Pos.of 0)) fun w0_0 => bndO (oNilCheck w0_0 (bumpH 0 h)) fun v23 _ =>
  bndO (oFieldAddr 0 v23 (bumpH 0 h)) fun v24 _ =>
  gtO (T.get fr (Pos.of 5)) fun w3_5 => bndO (oBin .shr .none w3_5 (.int .u64 4) (bumpH 0 h)) fun v26 _ =>
  bndO (oIdxStr (.str [48, 49, 50, 51, 52, 53, 54, 55, 56, 57, 97, 98, 99, 100, 101, 102]) v26 (bumpH 0 h)) fun v27 _ =>
  bndO (JmF258 [v24, v27] (bumpH 0 h)) fun v28 h6 =>
  Out.nor fr h6
def Jmr203_7 (fr : F) (h : Hp) : Out :=
  gtO (T.get fr (Pos.of 0)) fun w0_0 => bndO (oNilCheck w0_0 (bumpH 0 h)) fun v30 _ =>
  bndO (oFieldAddr 0 v30 (bumpH 0 h)) fun v31 _ =>
  gtO (T.get fr (Pos.of 5)) fun w3_5 => bndO (oBin .and .none w3_5 (.int .u8 15) (bumpH 0 h)) fun v33 _ =>
  bndO (oIdxStr (.str [48, 49, 50, 51, 52, 53, 54, 55, 56, 57, 97, 98, 99, 100, 101, 102]) v33 (bumpH 0 h)) fun v34 _ =>
  bndO (JmF258 [v31, v34] (bumpH 0 h)) fun v35 h6 =>
  Out.nor fr h6
def Jmr203_23 (fr : F) (h : Hp) : Out :=
  gtO (T.get fr (Pos.of 12)) fun v12 => bndO (oBin .add .none v12 (.int .i64 1) h) fun v95 h0 =>
  Out.nor (T.set (some v95) (Pos.of 12) fr) h0
def Jmr203_24 (fr : F) (h : Hp) : Out :=
  gtO (T.get fr (Pos.of 0)) fun v0 => bndO (oNilCheck v0 h) fun v97 h1 =>
  bndO (oFieldAddr 0 v97 h1) fun v98 h2 =>
  bndO (JmF258 [v98, (.int .u8 34)] h2) fun v99 h3 =>
  Out.nor fr h3
def Jmb203_2 : F → Hp → Out := (seqO Jmr203_2 (seqO (cndX (.tmp 13) Out.nor (Out.ex 0)) (seqO (blkO 1 (seqO Jmr203_3 (seqO Jmr203_4 (blkO 2 (seqO Jmr203_8 (cndX (.tmp 36) (seqO Jmr203_9 Jmr203_10) (seqO Jmr203_11 (cndX (.tmp 52) Jmr203_12 (seqO Jmr203_13 (cndX (.tmp 60) Jmr203_14 (seqO Jmr203_15 (cndX (.tmp 67) Jmr203_16 (seqO Jmr203_17 (cndX (.tmp 74) Jmr203_18 (seqO Jmr203_19 (cndX (.tmp 81) Jmr203_20 (seqO Jmr203_21 (cndX (.tmp 88) Jmr203_22 (seqO Jmr203_5 (seqO Jmr203_6 Jmr203_7)))))))))))))))))))) Jmr203_23)))
def Jmd203 : F → Hp → Out := (seqO Jmr203_0 (seqO (seqO Jmr203_1 (blkO 0 (loopO Jmb203_2 lf))) Jmr203_24))
def Jme203 : FuncId → Option Fun := fun f => match Nat.beq f 258 with | true => some JmF258 | false => match Nat.beq f 201 with | true => some JmF201 | false => none
def Jmp203 : Plans := fun id => match Nat.beq id 6 with | true => some ([0, 1, 3, 0, 8, 24, 63], [(0, .pure), (1, .pure), (2, .pure), (3, .pure), (4, .pure), (5, .pure), (6, .heavy)]) | false => match Nat.beq id 7 with | true => some ([0, 1, 3, 0, 8, 24, 63], [(0, .pure), (1, .pure), (2, .pure), (3, .pure), (4, .pure), (5, .pure), (6, .heavy)]) | false => none
def JmF203 : Fun := funX Tryz.prog TryG Jmk203 Jme203 Jmp203 lf Tryz.f203
theorem JmD203 : denX Tryz.prog TryG Tryz.f203.ntmps Jmk203 Jme203 Jmp203 lf (codeOf Tryz.f203) = Jmd203 := by kernel_rfl
theorem JmF203_eq (x0 x1 : V) (h : Hp) : JmF203 [x0, x1] h = outR Tryz.prog [] (Jmd203 (T.set (some x1) (Pos.of 1) (T.set (some x0) (Pos.of 0) T.nil)) h) := funX_eq (by kernel_rfl) JmD203 (by kernel_rfl) h
theorem Jmc203 : CallOk Tryz.prog TryG 203 JmF203 := funX_ok Trymix (callsOk_cons Jmc258 (callsOk_cons Jmc201 callsOk_0)) Tryz.func203 (by kernel_rfl)
def Jmk222 : Nat → Bool := fun t => memN t [0, 1, 4, 5, 6, 13, 23, 34, 39, 44, 49, 54, 59]
def Jmr222_0 (fr : F) (h : Hp) : Out :=
  Out.nor (T.set (some .nils) (Pos.of 4) fr) h
def Jmr222_1 (fr : F) (h : Hp) : Out :=
  gtO (T.get fr (Pos.of 0)) fun v0 => bndO (oBuildSlice 5 [(.int .u8 0)] 1 [(0, 1, (.int .u8 34))] h) fun v8 h1 =>
  bndO (oAppend 5 1 1 v0 v8 h1) fun v9 h2 =>
  Out.nor (T.set (some v9) (Pos.of 0) fr) h2
def Jmr222_2 (fr : F) (h : Hp) : Out :=
  Out.nor (T.set (some (.int .i64 0)) (Pos.of 5) fr) h
def Jmr222_3 (fr : F) (h : Hp) : Out :=
  gtO (T.get fr (Pos.of 5)) fun v5 => gtO (T.get fr (Pos.of 1)) fun v1 => bndO (oLenK 1 v1 h) fun v12 h2 =>
  bndO (oBin .lss .none v5 v12 h2) fun v13 h3 =>
  Out.nor (T.set (some v13) (Pos.of 13) fr) h3
def Jmr222_5 (fr : F) (h : Hp) : Out :=
  gtO (T.get fr (Pos.of 1)) fun v1 => gtO (T.get fr (Pos.of 5)) fun v5 => bndO (oIdxStr v1 v5 h) fun v18 h2 =>
  Out.nor (T.set (some v18) (Pos.of 6) fr) h2
def Jmr222_7 (fr : F) (h : Hp) : Out :=
  gtO (T.get fr (Pos.of 6)) fun v6 => bndO (oBin .eql .none v6 (.int .u8 34) h) fun v25 h1 =>
  ifB v25 (Out.nor (T.set (some (.bool true)) (Pos.of 23) fr) h1) (bndO (oBin .eql .none v6 (.int .u8 92) h1) fun v28 h4 =>
  Out.nor (T.set (some v28) (Pos.of 23) fr) h4)
def Jmr222_8 (fr : F) (h : Hp) : Out :=
  gtO (T.get fr (Pos.of 0)) fun v0 => gtO (T.get fr (Pos.of 6)) fun v6 => bndO (oBuildSlice 5 [(.int .u8 0), (.int .u8 0)] 2 [(0, 1, (.int .u8 92)), (1, 1, v6)] h) fun v32 h2 =>
  bndO (oAppend 5 1 1 v0 v32 h2) fun v33 h3 =>
  Out.nor (T.set (some v33) (Pos.of 0) fr) h3
def Jmr222_9 (fr : F) (h : Hp) : Out :=
  gtO (T.get fr (Pos.of 6)) fun v6 => bndO (oBin .eql .none v6 (.int .u8 8) h) fun v36 h1 =>
  Out.nor (T.set (some v36) (Pos.of 34) fr) h1
def Jmr222_10 (fr : F) (h : Hp) : Out :=
  gtO (T.get fr (Pos.of 0)) fun v0 => bndO (oAppend 5 1 1 v0 (.str [92, 98]) h) fun v38 h1 =>
  Out.nor (T.set (some v38) (Pos.of 0) fr) h1
def Jmr222_11 (fr : F) (h : Hp) : Out :=
  gtO (T.get fr (Pos.of 6)) fun v6 => bndO (oBin .eql .none v6 (.int .u8 9) h) fun v41 h1 =>
  Out.nor (T.set (some v41) (Pos.of 39) fr) h1
def Jmr222_12 (fr : F) (h : Hp) : Out :=
  gtO (T.get fr (Pos.of 0)) fun v0 => bndO (oAppend 5 1 1 v0 (.str [92, 116]) h) fun v43 h1 =>
  Out.nor (T.set (some v43) (Pos.of 0) fr) h1
def Jmr222_13 (fr : F) (h : Hp) : Out :=
  gtO (T.get fr (Pos.of 6)) fun v6 => bndO (oBin .eql .none v6 (.int .u8 10) h) fun v46 h1 =>
  Out.nor (T.set (some v46) (Pos.of 44) fr) h1
def Jmr222_14 (fr : F) (h : Hp) : Out :=
  gtO (T.get fr (Pos.of 0)) fun v0 => bndO (oAppend 5 1 1 v0 (.str [92, 110]) h) fun v48 h1 =>
  Out.nor (T.set (some v48) (Pos.of 0) fr) h1
def Jmr222_15 (fr : F) (h : Hp) : Out :=
  gtO (T.get fr (Pos.of 6)) fun v6 => bndO (oBin .eql .none v6 (.int .u8 12) h) fun v51 h1 =>
  Out.nor (T.set (some v51) (Pos.of 49) fr) h1
def Jmr222_16 (fr : F) (h : Hp) : Out :=
  gtO (T.get fr (Pos.of 0)) fun v0 => bndO (oAppend 5 1 1 v0 (.str [92, 102]) h) fun v53 h1 =>
  Out.nor (T.set (some v53) (Pos.of 0) fr) h1
def Jmr222_17 (fr : F) (h : Hp) : Out :=
  gtO (T.get fr (Pos.of 6)) fun v6 => bndO (oBin .eql .none v6 (.int .u8 13) h) fun v56 h1 =>
  Out.nor (T.set (some v56) (Pos.of 54) fr) h1
def Jmr222_18 (fr : F) (h : Hp) : Out :=
  gtO (T.get fr (Pos.of 0)) fun v0 => bndO (oAppend 5 1 1 v0 (.str [92, 114]) h) fun v58 h1 =>
  Out.nor (T.set (some v58) (Pos.of 0) fr) h1
def Jmr222_19 (fr : F) (h : Hp) : Out :=
  gtO (T.get fr (Pos.of 6)) fun v6 => bndO (oBin .lss .none v6 (.int .u8 32) h) fun v61 h1 =>
  Out.nor (T.set (some v61) (Pos.of 59) fr) h1
def Jmr222_20 (fr : F) (h : Hp) : Out :=
  gtO (T.get fr (Pos.of 0)) fun v0 => bndO (oAppend 5 1 1 v0 (.str [92, 117, 48, 48]) h) fun v63 h1 =>
  Out.nor (T.set (some v63) (Pos.of 0) fr) h1
def Jmr222_21 (fr : F) (h : Hp) : Out :=
  gtO (T.get fr (Pos.of 0)) fun w0_0 => gtO (T.get fr (Pos.of 6)) fun w1_6 => bndO (oBin .quo .none w1_6 (.int .u8 16) (bumpH 1 h)) fun v66 _ =>
  bndO (oIdxStr (.str [48, 49, 50, 51, 52, 53, 54, 55, 56, 57, 97, 98, 99, 100, 101, 102]) v66 (bumpH 1 h)) fun v67 _ =>
  gtO (T.get fr (Pos.of 6)) fun w4_6 => bndO (oBin .rem .none w4_6 (.int .u8 16) (bumpH 1 h)) fun v69 _ =>
  bndO (oIdxStr (.str [48, 49, 50, 51, 52, 53, 54, 55, 56, 57, 97, 98, 99, 100, 101, 102]) v69 (bumpH 1 h)) fun v70 _ =>
  alcO (aBuildSlice 5 [(.int .u8 0), (.int .u8 0)] 2 [(0, 1, v67), (1, 1, v70)]) fun ob7 mk7 =>
  bndO (oAppend 5 1 1 w0_0 (mk7 (Hp.next h)) (Hp.put (bumpH 1 h) (Hp.next h) (some ob7))) fun v72 h8 =>
  Out.nor (T.set (some v72) (Pos.of 0) fr) h8
def Jmr222_6 (fr : F) (h : Hp) : Out :=
  gtO (T.get fr (Pos.of 0)) fun v0 => gtO (T.get fr (Pos.of 6)) fun v6 => bndO (oBuildSlice 5 [(.int .u8 0)] 1 [(0, 1, v6)] h) fun v21 h2 =>
  bndO (oAppend 5 1 1 v0 v21 h2) fun v22 h3 =>
  Out.nor (T.set (some v22) (Pos.of 0) fr) h3
def Jmr222_4 (fr : F) (h : Hp) : Out :=
  gtO (T.get fr (Pos.of 5)) fun v5 => bndO (oBin .add .none v5 (.int .i64 1) h) fun v15 h1 =>
  Out.nor (T.set (some v15) (Pos.of 5) fr) h1
def Jmr222_22 (fr : F) (h : Hp) : Out :=
  gtO (T.get fr (Pos.of 0)) fun v0 => bndO (oBuildSlice 5 [(.int .u8 0)] 1 [(0, 1, (.int .u8 34))] h) fun v74 h1 =>
  bndO (oAppend 5 1 1 v0 v74 h1) fun v75 h2 =>
  Out.nor (T.set (some v75) (Pos.of 4) fr) h2
def Jmb222_3 : F → Hp → Out := (seqO (seqO Jmr222_3 (cndX (.tmp 13) Out.nor (Out.ex 0))) (seqO (blkO 1 (seqO Jmr222_5 (blkO 2 (seqO Jmr222_7 (cndX (.tmp 23) Jmr222_8 (seqO Jmr222_9 (cndX (.tmp 34) Jmr222_10 (seqO Jmr222_11 (cndX (.tmp 39) Jmr222_12 (seqO Jmr222_13 (cndX (.tmp 44) Jmr222_14 (seqO Jmr222_15 (cndX (.tmp 49) Jmr222_16 (seqO Jmr222_17 (cndX (.tmp 54) Jmr222_18 (seqO Jmr222_19 (cndX (.tmp 59) (seqO Jmr222_20 Jmr222_21) Jmr222_6))))))))))))))))) Jmr222_4))
def Jmd222 : F → Hp → Out := (seqO Jmr222_0 (seqO Jmr222_1 (seqO (seqO Jmr222_2 (blkO 0 (loopO Jmb222_3 lf))) (seqO Jmr222_22 Out.ret))))
def Jme222 : FuncId → Option Fun := fun f => none
def Jmp222 : Plans := fun id => match Nat.beq id 21 with | true => some ([0, 0, 2, 6, 0, 16, 48, 126, 255, 511], [(0, .pure), (1, .pure), (2, .pure), (3, .pure), (4, .pure), (5, .pure), (6, .pure), (7, .alloc), (8, .heavy), (9, .pure)]) | false => none
def JmF222 : Fun := funX Tryz.prog TryG Jmk222 Jme222 Jmp222 lf Tryz.f222
theorem JmD222 : denX Tryz.prog TryG Tryz.f222.ntmps Jmk222 Jme222 Jmp222 lf (codeOf Tryz.f222) = Jmd222 := by kernel_rfl
theorem JmF222_eq (x0 x1 : V) (h : Hp) : JmF222 [x0, x1] h = outR Tryz.prog [.tmp 4] (Jmd222 (T.set (some x1) (Pos.of 1) (T.set (some x0) (Pos.of 0) T.nil)) h) := funX_eq (by kernel_rfl) JmD222 (by kernel_rfl) h
theorem Jmc222 : CallOk Tryz.prog TryG 222 JmF222 := funX_ok Trymix callsOk_0 Tryz.func222 (by kernel_rfl)
end Go.Proofs.Jm
