/- Part of the value machine, or of a walk by it: lemmas that the claim's last text uses. No conditions. -/
import Derived.Test.YtfaolchpaooboaaGreatDoorChecked
import Derived.KernelRfl
import Derived.Test.YtfaolchpaooboaaGreatDoorJfVmO
import Derived.Test.YtfaolchpaooboaaGreatDoorJfVmS
import Derived.Test.YtfaolchpaooboaaGreatDoorJfVmE
import Derived.Test.YtfaolchpaooboaaGreatDoorJfVmH
import Derived.Test.YtfaolchpaooboaaGreatDoorJfVmJ
import Derived.Test.YtfaolchpaooboaaGreatDoorJfVmK
import Derived.Test.YtfaolchpaooboaaGreatDoorJfVmM
set_option linter.unusedVariables false
set_option linter.unusedSimpArgs false
set_option linter.unnecessarySimpa false
noncomputable section
namespace Go.Proofs.Jm
open Go Go.Proofs Go.Vm
set_option linter.unusedVariables false
set_option linter.unusedSimpArgs false
set_option maxRecDepth 100000
set_option maxHeartbeats 4000000
theorem Trymix : Tryz.prog.follows .mixedOrders = true := Tryz.checked.mixed
def TryG : Nat := 6
def JmF381 : Fun := fun _ _ => .bad
theorem Jmc381 : CallOk Tryz.prog TryG 381 JmF381 := fun _ _ _ _ _ _ _ e => by cases e
def Jmk312 : Nat → Bool := fun t => memN t [0, 2, 3, 18, 25, 36]
def Jmr312_0 (fr : F) (h : Hp) : Out :=
  Out.nor (T.set (some (.str [])) (Pos.of 2) fr) h
def Jmr312_1 (fr : F) (h : Hp) : Out :=
  gtO (T.get fr (Pos.of 0)) fun v0 => bndO (oBin .lss .none v0 (.int .i64 0) h) fun v5 h1 =>
  ifB v5 (Out.nor (T.set (some (.bool true)) (Pos.of 3) fr) h1) (bndO (oBin .gtr .none v0 (.int .i64 1114111) h1) fun v8 h4 =>
  ifB v8 (Out.nor (T.set (some (.bool true)) (Pos.of 3) fr) h4) (bndO (oBin .geq .none v0 (.int .i64 55296) h4) fun v12 h8 =>
  ifB v12 (bndO (oBin .leq .none v0 (.int .i64 57343) h8) fun v15 h11 =>
  Out.nor (T.set (some v15) (Pos.of 3) fr) h11) (Out.nor (T.set (some (.bool false)) (Pos.of 3) fr) h8)))
def Jmr312_2 (fr : F) (h : Hp) : Out :=
  Out.nor (T.set (some (.str [])) (Pos.of 2) fr) h
def Jmr312_3 (fr : F) (h : Hp) : Out :=
  gtO (T.get fr (Pos.of 0)) fun v0 => bndO (oBin .lss .none v0 (.int .i64 128) h) fun v20 h1 =>
  Out.nor (T.set (some v20) (Pos.of 18) fr) h1
def Jmr312_4 (fr : F) (h : Hp) : Out :=
  gtO (T.get fr (Pos.of 0)) fun v0 => bndO (oConvInt .u8 v0 h) fun v22 h1 =>
  bndO (oBuildSlice 5 [(.int .u8 0)] 1 [(0, 1, v22)] h1) fun v23 h2 =>
  bndO (oBytesStr v23 h2) fun v24 h3 =>
  Out.nor (T.set (some v24) (Pos.of 2) fr) h3
def Jmr312_5 (fr : F) (h : Hp) : Out :=
  gtO (T.get fr (Pos.of 0)) fun v0 => bndO (oBin .lss .none v0 (.int .i64 2048) h) fun v27 h1 =>
  Out.nor (T.set (some v27) (Pos.of 25) fr) h1
def Jmr312_6 (fr : F) (h : Hp) : Out :=
  gtO (T.get fr (Pos.of 0)) fun v0 => bndO (oBin .shr .none v0 (.int .u64 6) h) fun v29 h1 =>
  bndO (oBin .or .none (.int .i64 192) v29 h1) fun v30 h2 =>
  bndO (oConvInt .u8 v30 h2) fun v31 h3 =>
  bndO (JmF381 [v0] h3) fun v33 h5 =>
  bndO (oBuildSlice 5 [(.int .u8 0), (.int .u8 0)] 2 [(0, 1, v31), (1, 1, v33)] h5) fun v34 h6 =>
  bndO (oBytesStr v34 h6) fun v35 h7 =>
  Out.nor (T.set (some v35) (Pos.of 2) fr) h7
def Jmr312_7 (fr : F) (h : Hp) : Out :=
  gtO (T.get fr (Pos.of 0)) fun v0 => bndO (oBin .lss .none v0 (.int .i64 65536) h) fun v38 h1 =>
  Out.nor (T.set (some v38) (Pos.of 36) fr) h1
def Jmr312_8 (fr : F) (h : Hp) : Out :=
  gtO (T.get fr (Pos.of 0)) fun v0 => bndO (oBin .shr .none v0 (.int .u64 12) h) fun v40 h1 =>
  bndO (oBin .or .none (.int .i64 224) v40 h1) fun v41 h2 =>
  bndO (oConvInt .u8 v41 h2) fun v42 h3 =>
  bndO (oBin .shr .none v0 (.int .u64 6) h3) fun v44 h5 =>
  bndO (JmF381 [v44] h5) fun v45 h6 =>
  bndO (JmF381 [v0] h6) fun v47 h8 =>
  bndO (oBuildSlice 5 [(.int .u8 0), (.int .u8 0), (.int .u8 0)] 3 [(0, 1, v42), (1, 1, v45), (2, 1, v47)] h8) fun v48 h9 =>
  bndO (oBytesStr v48 h9) fun v49 h10 =>
  Out.nor (T.set (some v49) (Pos.of 2) fr) h10
def Jmr312_9 (fr : F) (h : Hp) : Out :=
  gtO (T.get fr (Pos.of 0)) fun v0 => bndO (oBin .shr .none v0 (.int .u64 18) h) fun v51 h1 =>
  bndO (oBin .or .none (.int .i64 240) v51 h1) fun v52 h2 =>
  bndO (oConvInt .u8 v52 h2) fun v53 h3 =>
  bndO (oBin .shr .none v0 (.int .u64 12) h3) fun v55 h5 =>
  bndO (JmF381 [v55] h5) fun v56 h6 =>
  bndO (oBin .shr .none v0 (.int .u64 6) h6) fun v58 h8 =>
  bndO (JmF381 [v58] h8) fun v59 h9 =>
  bndO (JmF381 [v0] h9) fun v61 h11 =>
  bndO (oBuildSlice 5 [(.int .u8 0), (.int .u8 0), (.int .u8 0), (.int .u8 0)] 4 [(0, 1, v53), (1, 1, v56), (2, 1, v59), (3, 1, v61)] h11) fun v62 h12 =>
  bndO (oBytesStr v62 h12) fun v63 h13 =>
  Out.nor (T.set (some v63) (Pos.of 2) fr) h13
def Jmd312 : F → Hp → Out := (seqO Jmr312_0 (seqO (blkO 0 (seqO Jmr312_1 (cndX (.tmp 3) (seqO Jmr312_2 Out.ret) (seqO Jmr312_3 (cndX (.tmp 18) (seqO Jmr312_4 Out.ret) (seqO Jmr312_5 (cndX (.tmp 25) (seqO Jmr312_6 Out.ret) (seqO Jmr312_7 (cndX (.tmp 36) (seqO Jmr312_8 Out.ret) Out.nor))))))))) (seqO Jmr312_9 Out.ret)))
def Jme312 : FuncId → Option Fun := fun f => match Nat.beq f 381 with | true => some JmF381 | false => none
def Jmp312 : Plans := fun id => none
def JmF312 : Fun := funX Tryz.prog TryG Jmk312 Jme312 Jmp312 lf Tryz.f312
theorem JmD312 : denX Tryz.prog TryG Tryz.f312.ntmps Jmk312 Jme312 Jmp312 lf (codeOf Tryz.f312) = Jmd312 := by kernel_rfl
theorem JmF312_eq (x0 : V) (h : Hp) : JmF312 [x0] h = outR Tryz.prog [.tmp 2] (Jmd312 (T.set (some x0) (Pos.of 0) T.nil) h) := funX_eq (by kernel_rfl) JmD312 (by kernel_rfl) h
theorem Jmc312 : CallOk Tryz.prog TryG 312 JmF312 := funX_ok Trymix (callsOk_cons Jmc381 callsOk_0) Tryz.func312 (by kernel_rfl)
def Jmk311 : Nat → Bool := fun t => memN t [0, 2, 3, 4, 9, 19, 29]
def Jmr311_0 (fr : F) (h : Hp) : Out :=
  Out.nor (T.set (some (.int .i64 0)) (Pos.of 3) (T.set (some (.int .i64 0)) (Pos.of 2) fr)) h
def Jmr311_1 (fr : F) (h : Hp) : Out :=
  gtO (T.get fr (Pos.of 0)) fun v0 => bndO (oBin .lss .none v0 (.int .u8 128) h) fun v6 h1 =>
  Out.nor (T.set (some v6) (Pos.of 4) fr) h1
def Jmr311_2 (fr : F) (h : Hp) : Out :=
  gtO (T.get fr (Pos.of 0)) fun v0 => bndO (oConvInt .i64 v0 h) fun v8 h1 =>
  Out.nor (T.set (some v8) (Pos.of 3) (T.set (some (.int .i64 1)) (Pos.of 2) fr)) h1
def Jmr311_3 (fr : F) (h : Hp) : Out :=
  gtO (T.get fr (Pos.of 0)) fun v0 => bndO (oBin .geq .none v0 (.int .u8 192) h) fun v11 h1 =>
  ifB v11 (bndO (oBin .lss .none v0 (.int .u8 224) h1) fun v14 h4 =>
  Out.nor (T.set (some v14) (Pos.of 9) fr) h4) (Out.nor (T.set (some (.bool false)) (Pos.of 9) fr) h1)
def Jmr311_4 (fr : F) (h : Hp) : Out :=
  gtO (T.get fr (Pos.of 0)) fun v0 => bndO (oBin .and .none v0 (.int .u8 31) h) fun v17 h1 =>
  bndO (oConvInt .i64 v17 h1) fun v18 h2 =>
  Out.nor (T.set (some v18) (Pos.of 3) (T.set (some (.int .i64 2)) (Pos.of 2) fr)) h2
def Jmr311_5 (fr : F) (h : Hp) : Out :=
  gtO (T.get fr (Pos.of 0)) fun v0 => bndO (oBin .geq .none v0 (.int .u8 224) h) fun v21 h1 =>
  ifB v21 (bndO (oBin .lss .none v0 (.int .u8 240) h1) fun v24 h4 =>
  Out.nor (T.set (some v24) (Pos.of 19) fr) h4) (Out.nor (T.set (some (.bool false)) (Pos.of 19) fr) h1)
def Jmr311_6 (fr : F) (h : Hp) : Out :=
  gtO (T.get fr (Pos.of 0)) fun v0 => bndO (oBin .and .none v0 (.int .u8 15) h) fun v27 h1 =>
  bndO (oConvInt .i64 v27 h1) fun v28 h2 =>
  Out.nor (T.set (some v28) (Pos.of 3) (T.set (some (.int .i64 3)) (Pos.of 2) fr)) h2
def Jmr311_7 (fr : F) (h : Hp) : Out :=
  gtO (T.get fr (Pos.of 0)) fun v0 => bndO (oBin .geq .none v0 (.int .u8 240) h) fun v31 h1 =>
  ifB v31 (bndO (oBin .lss .none v0 (.int .u8 248) h1) fun v34 h4 =>
  Out.nor (T.set (some v34) (Pos.of 29) fr) h4) (Out.nor (T.set (some (.bool false)) (Pos.of 29) fr) h1)
def Jmr311_8 (fr : F) (h : Hp) : Out :=
  gtO (T.get fr (Pos.of 0)) fun v0 => bndO (oBin .and .none v0 (.int .u8 7) h) fun v37 h1 =>
  bndO (oConvInt .i64 v37 h1) fun v38 h2 =>
  Out.nor (T.set (some v38) (Pos.of 3) (T.set (some (.int .i64 4)) (Pos.of 2) fr)) h2
def Jmr311_9 (fr : F) (h : Hp) : Out :=
  Out.nor (T.set (some (.int .i64 0)) (Pos.of 3) (T.set (some (.int .i64 0)) (Pos.of 2) fr)) h
def Jmd311 : F → Hp → Out := (seqO Jmr311_0 (seqO (blkO 0 (seqO Jmr311_1 (cndX (.tmp 4) (seqO Jmr311_2 Out.ret) (seqO Jmr311_3 (cndX (.tmp 9) (seqO Jmr311_4 Out.ret) (seqO Jmr311_5 (cndX (.tmp 19) (seqO Jmr311_6 Out.ret) (seqO Jmr311_7 (cndX (.tmp 29) (seqO Jmr311_8 Out.ret) Out.nor))))))))) (seqO Jmr311_9 Out.ret)))
def Jme311 : FuncId → Option Fun := fun f => none
def Jmp311 : Plans := fun id => none
def JmF311 : Fun := funX Tryz.prog TryG Jmk311 Jme311 Jmp311 lf Tryz.f311
theorem JmD311 : denX Tryz.prog TryG Tryz.f311.ntmps Jmk311 Jme311 Jmp311 lf (codeOf Tryz.f311) = Jmd311 := by kernel_rfl
theorem JmF311_eq (x0 : V) (h : Hp) : JmF311 [x0] h = outR Tryz.prog [.tmp 2, .tmp 3] (Jmd311 (T.set (some x0) (Pos.of 0) T.nil) h) := funX_eq (by kernel_rfl) JmD311 (by kernel_rfl) h
theorem Jmc311 : CallOk Tryz.prog TryG 311 JmF311 := funX_ok Trymix callsOk_0 Tryz.func311 (by kernel_rfl)
def Jmk224 : Nat → Bool := fun t => memN t [0, 1, 4, 5, 6, 7, 15, 33, 37, 58]
def Jmr224_0 (fr : F) (h : Hp) : Out :=
  Out.nor (T.set (some (.int .i64 0)) (Pos.of 5) (T.set (some (.int .i64 0)) (Pos.of 4) fr)) h
def Jmr224_1 (fr : F) (h : Hp) : Out :=
  gtO (T.get fr (Pos.of 1)) fun v1 => bndO (oBin .lss .none v1 (.int .i64 0) h) fun v9 h1 =>
  ifB v9 (Out.nor (T.set (some (.bool true)) (Pos.of 15) fr) h1) (gtO (T.get fr (Pos.of 0)) fun v0 => bndO (oLenK 1 v0 h1) fun v13 h5 =>
  bndO (oBin .geq .none v1 v13 h5) fun v14 h6 =>
  Out.nor (T.set (some v14) (Pos.of 15) fr) h6)
def Jmr224_2 (fr : F) (h : Hp) : Out :=
  gtO (T.get fr (Pos.of 1)) fun v1 => Out.nor (T.set (some v1) (Pos.of 5) (T.set (some (.int .i64 (-1))) (Pos.of 4) fr)) h
def Jmr224_3 (fr : F) (h : Hp) : Out :=
  gtO (T.get fr (Pos.of 0)) fun v0 => gtO (T.get fr (Pos.of 1)) fun v1 => bndO (oIdxStr v0 v1 h) fun v20 h2 =>
  bndO (JmF311 [v20] h2) fun v21 h3 =>
  bndO (oExtract 0 v21 h3) fun v22 h5 =>
  bndO (oExtract 1 v21 h5) fun v23 h6 =>
  Out.nor (T.set (some v23) (Pos.of 4) (T.set (some v22) (Pos.of 6) fr)) h6
def Jmr224_4 (fr : F) (h : Hp) : Out :=
  gtO (T.get fr (Pos.of 6)) fun v6 => bndO (oBin .eql .none v6 (.int .i64 0) h) fun v25 h1 =>
  ifB v25 (Out.nor (T.set (some (.bool true)) (Pos.of 33) fr) h1) (gtO (T.get fr (Pos.of 0)) fun v0 => bndO (oLenK 1 v0 h1) fun v29 h5 =>
  gtO (T.get fr (Pos.of 1)) fun v1 => bndO (oBin .sub .none v29 v1 h5) fun v31 h7 =>
  bndO (oBin .gtr .none v6 v31 h7) fun v32 h8 =>
  Out.nor (T.set (some v32) (Pos.of 33) fr) h8)
def Jmr224_5 (fr : F) (h : Hp) : Out :=
  gtO (T.get fr (Pos.of 1)) fun v1 => Out.nor (T.set (some v1) (Pos.of 5) (T.set (some (.int .i64 (-1))) (Pos.of 4) fr)) h
def Jmr224_6 (fr : F) (h : Hp) : Out :=
  Out.nor (T.set (some (.int .i64 1)) (Pos.of 7) fr) h
def Jmr224_7 (fr : F) (h : Hp) : Out :=
  gtO (T.get fr (Pos.of 7)) fun v7 => gtO (T.get fr (Pos.of 6)) fun v6 => bndO (oBin .lss .none v7 v6 h) fun v37 h2 =>
  Out.nor (T.set (some v37) (Pos.of 37) fr) h2
def Jmr224_9 (fr : F) (h : Hp) : Out :=
  gtO (T.get fr (Pos.of 4)) fun v4 => bndO (oBin .shl .none v4 (.int .u64 6) h) fun v41 h1 =>
  gtO (T.get fr (Pos.of 0)) fun v0 => gtO (T.get fr (Pos.of 1)) fun v1 => gtO (T.get fr (Pos.of 7)) fun v7 => bndO (oBin .add .none v1 v7 h1) fun v45 h5 =>
  bndO (oIdxStr v0 v45 h5) fun v46 h6 =>
  bndO (oBin .and .none v46 (.int .u8 63) h6) fun v47 h7 =>
  bndO (oConvInt .i64 v47 h7) fun v48 h8 =>
  bndO (oBin .or .none v41 v48 h8) fun v49 h9 =>
  Out.nor (T.set (some v49) (Pos.of 4) fr) h9
def Jmr224_8 (fr : F) (h : Hp) : Out :=
  gtO (T.get fr (Pos.of 7)) fun v7 => bndO (oBin .add .none v7 (.int .i64 1) h) fun v39 h1 =>
  Out.nor (T.set (some v39) (Pos.of 7) fr) h1
def Jmr224_10 (fr : F) (h : Hp) : Out :=
  gtO (T.get fr (Pos.of 4)) fun w0_4 => bndO (JmF312 [w0_4] (bumpH 0 h)) fun v51 h1 =>
  gtO (T.get fr (Pos.of 0)) fun w2_0 => gtO (T.get fr (Pos.of 1)) fun w3_1 => gtO (T.get fr (Pos.of 1)) fun w4_1 => gtO (T.get fr (Pos.of 6)) fun w5_6 => bndO (oBin .add .none w4_1 w5_6 h1) fun v56 _ =>
  bndO (oSliceStr w2_0 (some w3_1) (some v56) h1) fun v57 _ =>
  bndO (oBin .neq .none v51 v57 h1) fun v58 _ =>
  Out.nor (T.set (some v58) (Pos.of 58) fr) h1
def Jmr224_11 (fr : F) (h : Hp) : Out :=
  gtO (T.get fr (Pos.of 1)) fun v1 => Out.nor (T.set (some v1) (Pos.of 5) (T.set (some (.int .i64 (-1))) (Pos.of 4) fr)) h
def Jmr224_12 (fr : F) (h : Hp) : Out :=
  gtO (T.get fr (Pos.of 4)) fun v4 => gtO (T.get fr (Pos.of 1)) fun v1 => gtO (T.get fr (Pos.of 6)) fun v6 => bndO (oBin .add .none v1 v6 h) fun v63 h3 =>
  Out.nor (T.set (some v63) (Pos.of 5) (T.set (some v4) (Pos.of 4) fr)) h3
def Jmb224_7 : F → Hp → Out := (seqO (seqO Jmr224_7 (cndX (.tmp 37) Out.nor (Out.ex 0))) (seqO (blkO 1 Jmr224_9) Jmr224_8))
def Jmd224 : F → Hp → Out := (seqO Jmr224_0 (seqO (seqO Jmr224_1 (cndX (.tmp 15) (seqO Jmr224_2 Out.ret) Out.nor)) (seqO Jmr224_3 (seqO (seqO Jmr224_4 (cndX (.tmp 33) (seqO Jmr224_5 Out.ret) Out.nor)) (seqO (seqO Jmr224_6 (blkO 0 (loopO Jmb224_7 lf))) (seqO (seqO Jmr224_10 (cndX (.tmp 58) (seqO Jmr224_11 Out.ret) Out.nor)) (seqO Jmr224_12 Out.ret)))))))
def Jme224 : FuncId → Option Fun := fun f => match Nat.beq f 311 with | true => some JmF311 | false => match Nat.beq f 312 with | true => some JmF312 | false => none
def Jmp224 : Plans := fun id => match Nat.beq id 10 with | true => some ([0, 1, 0, 0, 0, 0, 48, 124, 255], [(0, .pure), (1, .heavy), (2, .pure), (3, .pure), (4, .pure), (5, .pure), (6, .pure), (7, .pure), (8, .pure)]) | false => none
def JmF224 : Fun := funX Tryz.prog TryG Jmk224 Jme224 Jmp224 lf Tryz.f224
theorem JmD224 : denX Tryz.prog TryG Tryz.f224.ntmps Jmk224 Jme224 Jmp224 lf (codeOf Tryz.f224) = Jmd224 := by kernel_rfl
theorem JmF224_eq (x0 x1 : V) (h : Hp) : JmF224 [x0, x1] h = outR Tryz.prog [.tmp 4, .tmp 5] (Jmd224 (T.set (some x1) (Pos.of 1) (T.set (some x0) (Pos.of 0) T.nil)) h) := funX_eq (by kernel_rfl) JmD224 (by kernel_rfl) h
theorem Jmc224 : CallOk Tryz.prog TryG 224 JmF224 := funX_ok Trymix (callsOk_cons Jmc311 (callsOk_cons Jmc312 callsOk_0)) Tryz.func224 (by kernel_rfl)
def Jmk151 : Nat → Bool := fun t => memN t [0, 2, 3, 4, 5, 9, 17]
def Jmr151_0 (fr : F) (h : Hp) : Out :=
  Out.nor (T.set (some (.bool false)) (Pos.of 2) fr) h
def Jmr151_1 (fr : F) (h : Hp) : Out :=
  Out.nor (T.set (some (.int .i64 0)) (Pos.of 3) fr) h
def Jmr151_2 (fr : F) (h : Hp) : Out :=
  gtO (T.get fr (Pos.of 3)) fun v3 => gtO (T.get fr (Pos.of 0)) fun v0 => bndO (oLenK 1 v0 h) fun v8 h2 =>
  bndO (oBin .lss .none v3 v8 h2) fun v9 h3 =>
  Out.nor (T.set (some v9) (Pos.of 9) fr) h3
def Jmr151_3 (fr : F) (h : Hp) : Out :=
  gtO (T.get fr (Pos.of 0)) fun v0 => gtO (T.get fr (Pos.of 3)) fun v3 => bndO (JmF224 [v0, v3] h) fun v13 h2 =>
  bndO (oExtract 0 v13 h2) fun v14 h4 =>
  bndO (oExtract 1 v13 h4) fun v15 h5 =>
  Out.nor (T.set (some v15) (Pos.of 5) (T.set (some v14) (Pos.of 4) fr)) h5
def Jmr151_4 (fr : F) (h : Hp) : Out :=
  gtO (T.get fr (Pos.of 4)) fun v4 => bndO (oBin .lss .none v4 (.int .i64 0) h) fun v17 h1 =>
  Out.nor (T.set (some v17) (Pos.of 17) fr) h1
def Jmr151_5 (fr : F) (h : Hp) : Out :=
  Out.nor (T.set (some (.bool false)) (Pos.of 2) fr) h
def Jmr151_6 (fr : F) (h : Hp) : Out :=
  gtO (T.get fr (Pos.of 5)) fun v5 => Out.nor (T.set (some v5) (Pos.of 3) fr) h
def Jmr151_7 (fr : F) (h : Hp) : Out :=
  Out.nor (T.set (some (.bool true)) (Pos.of 2) fr) h
def Jmb151_2 : F → Hp → Out := (seqO (seqO Jmr151_2 (cndX (.tmp 9) Out.nor (Out.ex 0))) (blkO 1 (seqO Jmr151_3 (seqO (seqO Jmr151_4 (cndX (.tmp 17) (seqO Jmr151_5 Out.ret) Out.nor)) Jmr151_6))))
def Jmd151 : F → Hp → Out := (seqO Jmr151_0 (seqO Jmr151_1 (seqO (blkO 0 (loopO Jmb151_2 lf)) (seqO Jmr151_7 Out.ret))))
def Jme151 : FuncId → Option Fun := fun f => match Nat.beq f 224 with | true => some JmF224 | false => none
def Jmp151 : Plans := fun id => none
def JmF151 : Fun := funX Tryz.prog TryG Jmk151 Jme151 Jmp151 lf Tryz.f151
theorem JmD151 : denX Tryz.prog TryG Tryz.f151.ntmps Jmk151 Jme151 Jmp151 lf (codeOf Tryz.f151) = Jmd151 := by kernel_rfl
theorem JmF151_eq (x0 : V) (h : Hp) : JmF151 [x0] h = outR Tryz.prog [.tmp 2] (Jmd151 (T.set (some x0) (Pos.of 0) T.nil) h) := funX_eq (by kernel_rfl) JmD151 (by kernel_rfl) h
theorem Jmc151 : CallOk Tryz.prog TryG 151 JmF151 := funX_ok Trymix (callsOk_cons Jmc224 callsOk_0) Tryz.func151 (by kernel_rfl)
def Jmk245 : Nat → Bool := fun t => memN t [0, 2, 3, 18, 25, 38]
def Jmr245_0 (fr : F) (h : Hp) : Out :=
  Out.nor (T.set (some (.str [])) (Pos.of 2) fr) h
def Jmr245_1 (fr : F) (h : Hp) : Out :=
  gtO (T.get fr (Pos.of 0)) fun v0 => bndO (oBin .lss .none v0 (.int .i64 0) h) fun v5 h1 =>
  ifB v5 (Out.nor (T.set (some (.bool true)) (Pos.of 3) fr) h1) (bndO (oBin .gtr .none v0 (.int .i64 1114111) h1) fun v8 h4 =>
  ifB v8 (Out.nor (T.set (some (.bool true)) (Pos.of 3) fr) h4) (bndO (oBin .geq .none v0 (.int .i64 55296) h4) fun v12 h8 =>
  ifB v12 (bndO (oBin .leq .none v0 (.int .i64 57343) h8) fun v15 h11 =>
  Out.nor (T.set (some v15) (Pos.of 3) fr) h11) (Out.nor (T.set (some (.bool false)) (Pos.of 3) fr) h8)))
def Jmr245_2 (fr : F) (h : Hp) : Out :=
  Out.nor (T.set (some (.str [])) (Pos.of 2) fr) h
def Jmr245_3 (fr : F) (h : Hp) : Out :=
  gtO (T.get fr (Pos.of 0)) fun v0 => bndO (oBin .lss .none v0 (.int .i64 128) h) fun v20 h1 =>
  Out.nor (T.set (some v20) (Pos.of 18) fr) h1
def Jmr245_4 (fr : F) (h : Hp) : Out :=
  gtO (T.get fr (Pos.of 0)) fun v0 => bndO (oConvInt .u8 v0 h) fun v22 h1 =>
  bndO (oBuildSlice 5 [(.int .u8 0)] 1 [(0, 1, v22)] h1) fun v23 h2 =>
  bndO (oBytesStr v23 h2) fun v24 h3 =>
  Out.nor (T.set (some v24) (Pos.of 2) fr) h3
def Jmr245_5 (fr : F) (h : Hp) : Out :=
  gtO (T.get fr (Pos.of 0)) fun v0 => bndO (oBin .lss .none v0 (.int .i64 2048) h) fun v27 h1 =>
  Out.nor (T.set (some v27) (Pos.of 25) fr) h1
def Jmr245_6 (fr : F) (h : Hp) : Out :=
  gtO (T.get fr (Pos.of 0)) fun v0 => bndO (oBin .shr .none v0 (.int .u64 6) h) fun v29 h1 =>
  bndO (oBin .or .none (.int .i64 192) v29 h1) fun v30 h2 =>
  bndO (oConvInt .u8 v30 h2) fun v31 h3 =>
  bndO (oBin .and .none v0 (.int .i64 63) h3) fun v33 h5 =>
  bndO (oBin .or .none (.int .i64 128) v33 h5) fun v34 h6 =>
  bndO (oConvInt .u8 v34 h6) fun v35 h7 =>
  bndO (oBuildSlice 5 [(.int .u8 0), (.int .u8 0)] 2 [(0, 1, v31), (1, 1, v35)] h7) fun v36 h8 =>
  bndO (oBytesStr v36 h8) fun v37 h9 =>
  Out.nor (T.set (some v37) (Pos.of 2) fr) h9
def Jmr245_7 (fr : F) (h : Hp) : Out :=
  gtO (T.get fr (Pos.of 0)) fun v0 => bndO (oBin .lss .none v0 (.int .i64 65536) h) fun v40 h1 =>
  Out.nor (T.set (some v40) (Pos.of 38) fr) h1
def Jmr245_8 (fr : F) (h : Hp) : Out :=
  gtO (T.get fr (Pos.of 0)) fun v0 => bndO (oBin .shr .none v0 (.int .u64 12) h) fun v42 h1 =>
  bndO (oBin .or .none (.int .i64 224) v42 h1) fun v43 h2 =>
  bndO (oConvInt .u8 v43 h2) fun v44 h3 =>
  bndO (oBin .shr .none v0 (.int .u64 6) h3) fun v46 h5 =>
  bndO (oBin .and .none v46 (.int .i64 63) h5) fun v47 h6 =>
  bndO (oBin .or .none (.int .i64 128) v47 h6) fun v48 h7 =>
  bndO (oConvInt .u8 v48 h7) fun v49 h8 =>
  bndO (oBin .and .none v0 (.int .i64 63) h8) fun v51 h10 =>
  bndO (oBin .or .none (.int .i64 128) v51 h10) fun v52 h11 =>
  bndO (oConvInt .u8 v52 h11) fun v53 h12 =>
  bndO (oBuildSlice 5 [(.int .u8 0), (.int .u8 0), (.int .u8 0)] 3 [(0, 1, v44), (1, 1, v49), (2, 1, v53)] h12) fun v54 h13 =>
  bndO (oBytesStr v54 h13) fun v55 h14 =>
  Out.nor (T.set (some v55) (Pos.of 2) fr) h14
def Jmr245_9 (fr : F) (h : Hp) : Out :=
  gtO (T.get fr (Pos.of 0)) fun v0 => bndO (oBin .shr .none v0 (.int .u64 18) h) fun v57 h1 =>
  bndO (oBin .or .none (.int .i64 240) v57 h1) fun v58 h2 =>
  bndO (oConvInt .u8 v58 h2) fun v59 h3 =>
  bndO (oBin .shr .none v0 (.int .u64 12) h3) fun v61 h5 =>
  bndO (oBin .and .none v61 (.int .i64 63) h5) fun v62 h6 =>
  bndO (oBin .or .none (.int .i64 128) v62 h6) fun v63 h7 =>
  bndO (oConvInt .u8 v63 h7) fun v64 h8 =>
  bndO (oBin .shr .none v0 (.int .u64 6) h8) fun v66 h10 =>
  bndO (oBin .and .none v66 (.int .i64 63) h10) fun v67 h11 =>
  bndO (oBin .or .none (.int .i64 128) v67 h11) fun v68 h12 =>
  bndO (oConvInt .u8 v68 h12) fun v69 h13 =>
  bndO (oBin .and .none v0 (.int .i64 63) h13) fun v71 h15 =>
  bndO (oBin .or .none (.int .i64 128) v71 h15) fun v72 h16 =>
  bndO (oConvInt .u8 v72 h16) fun v73 h17 =>
  bndO (oBuildSlice 5 [(.int .u8 0), (.int .u8 0), (.int .u8 0), (.int .u8 0)] 4 [(0, 1, v59), (1, 1, v64), (2, 1, v69), (3, 1, v73)] h17) fun v74 h18 =>
  bndO (oBytesStr v74 h18) fun v75 h19 =>
  Out.nor (T.set (some v75) (Pos.of 2) fr) h19
def Jmd245 : F → Hp → Out := (seqO Jmr245_0 (seqO (blkO 0 (seqO Jmr245_1 (cndX (.tmp 3) (seqO Jmr245_2 Out.ret) (seqO Jmr245_3 (cndX (.tmp 18) (seqO Jmr245_4 Out.ret) (seqO Jmr245_5 (cndX (.tmp 25) (seqO Jmr245_6 Out.ret) (seqO Jmr245_7 (cndX (.tmp 38) (seqO Jmr245_8 Out.ret) Out.nor))))))))) (seqO Jmr245_9 Out.ret)))
def Jme245 : FuncId → Option Fun := fun f => none
def Jmp245 : Plans := fun id => none
def JmF245 : Fun := funX Tryz.prog TryG Jmk245 Jme245 Jmp245 lf Tryz.f245
theorem JmD245 : denX Tryz.prog TryG Tryz.f245.ntmps Jmk245 Jme245 Jmp245 lf (codeOf Tryz.f245) = Jmd245 := by kernel_rfl
theorem JmF245_eq (x0 : V) (h : Hp) : JmF245 [x0] h = outR Tryz.prog [.tmp 2] (Jmd245 (T.set (some x0) (Pos.of 0) T.nil) h) := funX_eq (by kernel_rfl) JmD245 (by kernel_rfl) h
theorem Jmc245 : CallOk Tryz.prog TryG 245 JmF245 := funX_ok Trymix callsOk_0 Tryz.func245 (by kernel_rfl)
def Jmk188 : Nat → Bool := fun t => memN t [0, 1, 4, 5, 6, 7, 8, 9, 17, 24, 29, 34, 44, 48, 69]
def Jmr188_0 (fr : F) (h : Hp) : Out :=
  Out.nor (T.set (some (.int .i64 0)) (Pos.of 5) (T.set (some (.int .i64 0)) (Pos.of 4) fr)) h
def Jmr188_1 (fr : F) (h : Hp) : Out :=
  gtO (T.get fr (Pos.of 1)) fun v1 => bndO (oBin .lss .none v1 (.int .i64 0) h) fun v11 h1 =>
  ifB v11 (Out.nor (T.set (some (.bool true)) (Pos.of 17) fr) h1) (gtO (T.get fr (Pos.of 0)) fun v0 => bndO (oLenK 1 v0 h1) fun v15 h5 =>
  bndO (oBin .geq .none v1 v15 h5) fun v16 h6 =>
  Out.nor (T.set (some v16) (Pos.of 17) fr) h6)
def Jmr188_2 (fr : F) (h : Hp) : Out :=
  gtO (T.get fr (Pos.of 1)) fun v1 => Out.nor (T.set (some v1) (Pos.of 5) (T.set (some (.int .i64 (-1))) (Pos.of 4) fr)) h
def Jmr188_3 (fr : F) (h : Hp) : Out :=
  gtO (T.get fr (Pos.of 0)) fun v0 => gtO (T.get fr (Pos.of 1)) fun v1 => bndO (oIdxStr v0 v1 h) fun v21 h2 =>
  bndO (oConvInt .i64 v21 h2) fun v22 h3 =>
  Out.nor (T.set (some v22) (Pos.of 6) fr) h3
def Jmr188_4 (fr : F) (h : Hp) : Out :=
  gtO (T.get fr (Pos.of 6)) fun v6 => Out.nor (T.set (some v6) (Pos.of 8) (T.set (some (.int .i64 1)) (Pos.of 7) fr)) h
def Jmr188_5 (fr : F) (h : Hp) : Out :=
  gtO (T.get fr (Pos.of 6)) fun v6 => bndO (oBin .geq .none v6 (.int .i64 240) h) fun v26 h1 =>
  Out.nor (T.set (some v26) (Pos.of 24) fr) h1
def Jmr188_6 (fr : F) (h : Hp) : Out :=
  Out.nor (T.set (some (.int .i64 4)) (Pos.of 7) fr) h
def Jmr188_7 (fr : F) (h : Hp) : Out :=
  gtO (T.get fr (Pos.of 6)) fun v6 => bndO (oBin .and .none v6 (.int .i64 7) h) fun v28 h1 =>
  Out.nor (T.set (some v28) (Pos.of 8) fr) h1
def Jmr188_8 (fr : F) (h : Hp) : Out :=
  gtO (T.get fr (Pos.of 6)) fun v6 => bndO (oBin .geq .none v6 (.int .i64 224) h) fun v31 h1 =>
  Out.nor (T.set (some v31) (Pos.of 29) fr) h1
def Jmr188_9 (fr : F) (h : Hp) : Out :=
  Out.nor (T.set (some (.int .i64 3)) (Pos.of 7) fr) h
def Jmr188_10 (fr : F) (h : Hp) : Out :=
  gtO (T.get fr (Pos.of 6)) fun v6 => bndO (oBin .and .none v6 (.int .i64 15) h) fun v33 h1 =>
  Out.nor (T.set (some v33) (Pos.of 8) fr) h1
def Jmr188_11 (fr : F) (h : Hp) : Out :=
  gtO (T.get fr (Pos.of 6)) fun v6 => bndO (oBin .geq .none v6 (.int .i64 192) h) fun v36 h1 =>
  Out.nor (T.set (some v36) (Pos.of 34) fr) h1
def Jmr188_12 (fr : F) (h : Hp) : Out :=
  Out.nor (T.set (some (.int .i64 2)) (Pos.of 7) fr) h
def Jmr188_13 (fr : F) (h : Hp) : Out :=
  gtO (T.get fr (Pos.of 6)) fun v6 => bndO (oBin .and .none v6 (.int .i64 31) h) fun v38 h1 =>
  Out.nor (T.set (some v38) (Pos.of 8) fr) h1
def Jmr188_14 (fr : F) (h : Hp) : Out :=
  gtO (T.get fr (Pos.of 7)) fun v7 => gtO (T.get fr (Pos.of 0)) fun v0 => bndO (oLenK 1 v0 h) fun v41 h2 =>
  gtO (T.get fr (Pos.of 1)) fun v1 => bndO (oBin .sub .none v41 v1 h2) fun v43 h4 =>
  bndO (oBin .gtr .none v7 v43 h4) fun v44 h5 =>
  Out.nor (T.set (some v44) (Pos.of 44) fr) h5
def Jmr188_15 (fr : F) (h : Hp) : Out :=
  gtO (T.get fr (Pos.of 1)) fun v1 => Out.nor (T.set (some v1) (Pos.of 5) (T.set (some (.int .i64 (-1))) (Pos.of 4) fr)) h
def Jmr188_16 (fr : F) (h : Hp) : Out :=
  Out.nor (T.set (some (.int .i64 1)) (Pos.of 9) fr) h
def Jmr188_17 (fr : F) (h : Hp) : Out :=
  gtO (T.get fr (Pos.of 9)) fun v9 => gtO (T.get fr (Pos.of 7)) fun v7 => bndO (oBin .lss .none v9 v7 h) fun v48 h2 =>
  Out.nor (T.set (some v48) (Pos.of 48) fr) h2
def Jmr188_19 (fr : F) (h : Hp) : Out :=
  gtO (T.get fr (Pos.of 8)) fun v8 => bndO (oBin .shl .none v8 (.int .u64 6) h) fun v52 h1 =>
  gtO (T.get fr (Pos.of 0)) fun v0 => gtO (T.get fr (Pos.of 1)) fun v1 => gtO (T.get fr (Pos.of 9)) fun v9 => bndO (oBin .add .none v1 v9 h1) fun v56 h5 =>
  bndO (oIdxStr v0 v56 h5) fun v57 h6 =>
  bndO (oConvInt .i64 v57 h6) fun v58 h7 =>
  bndO (oBin .and .none v58 (.int .i64 63) h7) fun v59 h8 =>
  bndO (oBin .or .none v52 v59 h8) fun v60 h9 =>
  Out.nor (T.set (some v60) (Pos.of 8) fr) h9
def Jmr188_18 (fr : F) (h : Hp) : Out :=
  gtO (T.get fr (Pos.of 9)) fun v9 => bndO (oBin .add .none v9 (.int .i64 1) h) fun v50 h1 =>
  Out.nor (T.set (some v50) (Pos.of 9) fr) h1
def Jmr188_20 (fr : F) (h : Hp) : Out :=
  gtO (T.get fr (Pos.of 8)) fun w0_8 => bndO (JmF245 [w0_8] (bumpH 0 h)) fun v62 h1 =>
  gtO (T.get fr (Pos.of 0)) fun w2_0 => gtO (T.get fr (Pos.of 1)) fun w3_1 => gtO (T.get fr (Pos.of 1)) fun w4_1 => gtO (T.get fr (Pos.of 7)) fun w5_7 => bndO (oBin .add .none w4_1 w5_7 h1) fun v67 _ =>
  bndO (oSliceStr w2_0 (some w3_1) (some v67) h1) fun v68 _ =>
  bndO (oBin .neq .none v62 v68 h1) fun v69 _ =>
  Out.nor (T.set (some v69) (Pos.of 69) fr) h1
def Jmr188_21 (fr : F) (h : Hp) : Out :=
  gtO (T.get fr (Pos.of 1)) fun v1 => Out.nor (T.set (some v1) (Pos.of 5) (T.set (some (.int .i64 (-1))) (Pos.of 4) fr)) h
def Jmr188_22 (fr : F) (h : Hp) : Out :=
  gtO (T.get fr (Pos.of 8)) fun v8 => gtO (T.get fr (Pos.of 1)) fun v1 => gtO (T.get fr (Pos.of 7)) fun v7 => bndO (oBin .add .none v1 v7 h) fun v74 h3 =>
  Out.nor (T.set (some v74) (Pos.of 5) (T.set (some v8) (Pos.of 4) fr)) h3
def Jmb188_17 : F → Hp → Out := (seqO (seqO Jmr188_17 (cndX (.tmp 48) Out.nor (Out.ex 1))) (seqO (blkO 2 Jmr188_19) Jmr188_18))
def Jmd188 : F → Hp → Out := (seqO Jmr188_0 (seqO (seqO Jmr188_1 (cndX (.tmp 17) (seqO Jmr188_2 Out.ret) Out.nor)) (seqO Jmr188_3 (seqO Jmr188_4 (seqO (blkO 0 (seqO Jmr188_5 (cndX (.tmp 24) (seqO Jmr188_6 Jmr188_7) (seqO Jmr188_8 (cndX (.tmp 29) (seqO Jmr188_9 Jmr188_10) (seqO Jmr188_11 (cndX (.tmp 34) (seqO Jmr188_12 Jmr188_13) Out.nor))))))) (seqO (seqO Jmr188_14 (cndX (.tmp 44) (seqO Jmr188_15 Out.ret) Out.nor)) (seqO (seqO Jmr188_16 (blkO 1 (loopO Jmb188_17 lf))) (seqO (seqO Jmr188_20 (cndX (.tmp 69) (seqO Jmr188_21 Out.ret) Out.nor)) (seqO Jmr188_22 Out.ret)))))))))
def Jme188 : FuncId → Option Fun := fun f => match Nat.beq f 245 with | true => some JmF245 | false => none
def Jmp188 : Plans := fun id => match Nat.beq id 20 with | true => some ([0, 1, 0, 0, 0, 0, 48, 124, 255], [(0, .pure), (1, .heavy), (2, .pure), (3, .pure), (4, .pure), (5, .pure), (6, .pure), (7, .pure), (8, .pure)]) | false => none
def JmF188 : Fun := funX Tryz.prog TryG Jmk188 Jme188 Jmp188 lf Tryz.f188
theorem JmD188 : denX Tryz.prog TryG Tryz.f188.ntmps Jmk188 Jme188 Jmp188 lf (codeOf Tryz.f188) = Jmd188 := by kernel_rfl
theorem JmF188_eq (x0 x1 : V) (h : Hp) : JmF188 [x0, x1] h = outR Tryz.prog [.tmp 4, .tmp 5] (Jmd188 (T.set (some x1) (Pos.of 1) (T.set (some x0) (Pos.of 0) T.nil)) h) := funX_eq (by kernel_rfl) JmD188 (by kernel_rfl) h
theorem Jmc188 : CallOk Tryz.prog TryG 188 JmF188 := funX_ok Trymix (callsOk_cons Jmc245 callsOk_0) Tryz.func188 (by kernel_rfl)
def Jmk154 : Nat → Bool := fun t => memN t [0, 2, 3, 4, 5, 9, 17]
def Jmr154_0 (fr : F) (h : Hp) : Out :=
  Out.nor (T.set (some (.bool false)) (Pos.of 2) fr) h
def Jmr154_1 (fr : F) (h : Hp) : Out :=
  Out.nor (T.set (some (.int .i64 0)) (Pos.of 3) fr) h
def Jmr154_2 (fr : F) (h : Hp) : Out :=
  gtO (T.get fr (Pos.of 3)) fun v3 => gtO (T.get fr (Pos.of 0)) fun v0 => bndO (oLenK 1 v0 h) fun v8 h2 =>
  bndO (oBin .lss .none v3 v8 h2) fun v9 h3 =>
  Out.nor (T.set (some v9) (Pos.of 9) fr) h3
def Jmr154_3 (fr : F) (h : Hp) : Out :=
  gtO (T.get fr (Pos.of 0)) fun v0 => gtO (T.get fr (Pos.of 3)) fun v3 => bndO (JmF188 [v0, v3] h) fun v13 h2 =>
  bndO (oExtract 0 v13 h2) fun v14 h4 =>
  bndO (oExtract 1 v13 h4) fun v15 h5 =>
  Out.nor (T.set (some v15) (Pos.of 5) (T.set (some v14) (Pos.of 4) fr)) h5
def Jmr154_4 (fr : F) (h : Hp) : Out :=
  gtO (T.get fr (Pos.of 4)) fun v4 => bndO (oBin .lss .none v4 (.int .i64 0) h) fun v17 h1 =>
  Out.nor (T.set (some v17) (Pos.of 17) fr) h1
def Jmr154_5 (fr : F) (h : Hp) : Out :=
  Out.nor (T.set (some (.bool false)) (Pos.of 2) fr) h
def Jmr154_6 (fr : F) (h : Hp) : Out :=
  gtO (T.get fr (Pos.of 5)) fun v5 => Out.nor (T.set (some v5) (Pos.of 3) fr) h
def Jmr154_7 (fr : F) (h : Hp) : Out :=
  Out.nor (T.set (some (.bool true)) (Pos.of 2) fr) h
def Jmb154_2 : F → Hp → Out := (seqO (seqO Jmr154_2 (cndX (.tmp 9) Out.nor (Out.ex 0))) (blkO 1 (seqO Jmr154_3 (seqO (seqO Jmr154_4 (cndX (.tmp 17) (seqO Jmr154_5 Out.ret) Out.nor)) Jmr154_6))))
def Jmd154 : F → Hp → Out := (seqO Jmr154_0 (seqO (seqO Jmr154_1 (blkO 0 (loopO Jmb154_2 lf))) (seqO Jmr154_7 Out.ret)))
def Jme154 : FuncId → Option Fun := fun f => match Nat.beq f 188 with | true => some JmF188 | false => none
def Jmp154 : Plans := fun id => none
def JmF154 : Fun := funX Tryz.prog TryG Jmk154 Jme154 Jmp154 lf Tryz.f154
theorem JmD154 : denX Tryz.prog TryG Tryz.f154.ntmps Jmk154 Jme154 Jmp154 lf (codeOf Tryz.f154) = Jmd154 := by kernel_rfl
theorem JmF154_eq (x0 : V) (h : Hp) : JmF154 [x0] h = outR Tryz.prog [.tmp 2] (Jmd154 (T.set (some x0) (Pos.of 0) T.nil) h) := funX_eq (by kernel_rfl) JmD154 (by kernel_rfl) h
theorem Jmc154 : CallOk Tryz.prog TryG 154 JmF154 := funX_ok Trymix (callsOk_cons Jmc188 callsOk_0) Tryz.func154 (by kernel_rfl)
def JmF192 : Fun := fun _ _ => .bad
theorem Jmc192 : CallOk Tryz.prog TryG 192 JmF192 := fun _ _ _ _ _ _ _ e => by cases e
def JmF343 : Fun := fun _ _ => .bad
theorem Jmc343 : CallOk Tryz.prog TryG 343 JmF343 := fun _ _ _ _ _ _ _ e => by cases e
def Jmk246 : Nat → Bool := fun t => memN t [0, 1, 4, 37]
def Jmr246_0 (fr : F) (h : Hp) : Out :=
  Out.nor (T.set (some (.bool false)) (Pos.of 4) fr) h
def Jmr246_1 (fr : F) (h : Hp) : Out :=
  gtO (T.get fr (Pos.of 0)) fun w0_0 => bndO (oNilCheck w0_0 (bumpH 0 h)) fun v6 _ =>
  bndO (oFieldAddr 0 v6 (bumpH 0 h)) fun v7 _ =>
  bndO (oLoad1 v7 (bumpH 0 h)) fun v8 _ =>
  bndO (oLenK 1 v8 (bumpH 0 h)) fun v9 _ =>
  gtO (T.get fr (Pos.of 0)) fun w5_0 => bndO (oNilCheck w5_0 (bumpH 0 h)) fun v11 _ =>
  bndO (oFieldAddr 1 v11 (bumpH 0 h)) fun v12 _ =>
  bndO (oLoad1 v12 (bumpH 0 h)) fun v13 _ =>
  bndO (oBin .sub .none v9 v13 (bumpH 0 h)) fun v14 _ =>
  gtO (T.get fr (Pos.of 1)) fun w10_1 => bndO (oLenK 1 w10_1 (bumpH 0 h)) fun v16 _ =>
  bndO (oBin .lss .none v14 v16 (bumpH 0 h)) fun v17 _ =>
  ifB v17 (Out.nor (T.set (some (.bool true)) (Pos.of 37) fr) (bumpH 0 h)) (gtO (T.get fr (Pos.of 0)) fun w14_0 => bndO (oNilCheck w14_0 (bumpH 0 h)) fun v20 _ =>
  bndO (oFieldAddr 0 v20 (bumpH 0 h)) fun v21 _ =>
  bndO (oLoad1 v21 (bumpH 0 h)) fun v22 _ =>
  gtO (T.get fr (Pos.of 0)) fun w18_0 => bndO (oNilCheck w18_0 (bumpH 0 h)) fun v24 _ =>
  bndO (oFieldAddr 1 v24 (bumpH 0 h)) fun v25 _ =>
  bndO (oLoad1 v25 (bumpH 0 h)) fun v26 _ =>
  gtO (T.get fr (Pos.of 0)) fun w22_0 => bndO (oNilCheck w22_0 (bumpH 0 h)) fun v28 _ =>
  bndO (oFieldAddr 1 v28 (bumpH 0 h)) fun v29 _ =>
  bndO (oLoad1 v29 (bumpH 0 h)) fun v30 _ =>
  gtO (T.get fr (Pos.of 1)) fun w26_1 => bndO (oLenK 1 w26_1 (bumpH 0 h)) fun v32 _ =>
  bndO (oBin .add .none v30 v32 (bumpH 0 h)) fun v33 _ =>
  bndO (oSliceStr v22 (some v26) (some v33) (bumpH 0 h)) fun v34 _ =>
  gtO (T.get fr (Pos.of 1)) fun w30_1 => bndO (oBin .neq .none v34 w30_1 (bumpH 0 h)) fun v36 _ =>
  Out.nor (T.set (some v36) (Pos.of 37) fr) (bumpH 0 h))
def Jmr246_2 (fr : F) (h : Hp) : Out :=
  Out.nor (T.set (some (.bool false)) (Pos.of 4) fr) h
def Jmr246_3 (fr : F) (h : Hp) : Out :=
  gtO (T.get fr (Pos.of 0)) fun v0 => bndO (oNilCheck v0 h) fun v39 h1 =>
  bndO (oFieldAddr 1 v39 h1) fun v40 h2 =>
  bndO (oLoad1 v40 h2) fun v41 h3 =>
  gtO (T.get fr (Pos.of 1)) fun v1 => bndO (oLenK 1 v1 h3) fun v43 h5 =>
  bndO (oBin .add .none v41 v43 h5) fun v44 h6 =>
  bndO (oNilCheck v0 h6) fun v45 h7 =>
  bndO (oFieldAddr 1 v45 h7) fun v46 h8 =>
  bndO (oStore 1 v46 v44 h8) fun _u9 h9 =>
  Out.nor fr h9
def Jmr246_4 (fr : F) (h : Hp) : Out :=
  Out.nor (T.set (some (.bool true)) (Pos.of 4) fr) h
def Jmd246 : F → Hp → Out := (seqO Jmr246_0 (seqO (seqO Jmr246_1 (cndX (.tmp 37) (seqO Jmr246_2 Out.ret) Out.nor)) (seqO Jmr246_3 (seqO Jmr246_4 Out.ret))))
def Jme246 : FuncId → Option Fun := fun f => none
def Jmp246 : Plans := fun id => match Nat.beq id 1 with | true => some ([0, 1, 3, 7, 15, 0, 32, 96, 224, 511, 0, 1024, 4095, 8191, 16383, 32767, 65535, 131071, 16383, 278527, 802815, 1851391, 16383, 4210687, 12599295, 29376511, 16383, 67125247, 264257535, 536870911, 16383, 2147483647, 4294967295], [(0, .pure), (1, .pure), (2, .pure), (3, .read 0), (4, .pure), (5, .pure), (6, .pure), (7, .pure), (8, .read 0), (9, .pure), (10, .pure), (11, .pure), (12, .pure), (13, .pure), (14, .pure), (15, .pure), (16, .pure), (17, .read 0), (18, .pure), (19, .pure), (20, .pure), (21, .read 0), (22, .pure), (23, .pure), (24, .pure), (25, .read 0), (26, .pure), (27, .pure), (28, .pure), (29, .pure), (30, .pure), (31, .pure), (32, .pure)]) | false => none
def JmF246 : Fun := funX Tryz.prog TryG Jmk246 Jme246 Jmp246 lf Tryz.f246
theorem JmD246 : denX Tryz.prog TryG Tryz.f246.ntmps Jmk246 Jme246 Jmp246 lf (codeOf Tryz.f246) = Jmd246 := by kernel_rfl
theorem JmF246_eq (x0 x1 : V) (h : Hp) : JmF246 [x0, x1] h = outR Tryz.prog [.tmp 4] (Jmd246 (T.set (some x1) (Pos.of 1) (T.set (some x0) (Pos.of 0) T.nil)) h) := funX_eq (by kernel_rfl) JmD246 (by kernel_rfl) h
theorem Jmc246 : CallOk Tryz.prog TryG 246 JmF246 := funX_ok Trymix callsOk_0 Tryz.func246 (by kernel_rfl)
def Jmk251 : Nat → Bool := fun t => memN t [0, 1, 7]
def Jmr251_0 (fr : F) (h : Hp) : Out :=
  gtO (T.get fr (Pos.of 0)) fun v0 => gtO (T.get fr (Pos.of 1)) fun v1 => bndO (JmF246 [v0, v1] h) fun v6 h2 =>
  bndO (oUn .not v6 h2) fun v7 h3 =>
  Out.nor (T.set (some v7) (Pos.of 7) fr) h3
def Jmr251_1 (fr : F) (h : Hp) : Out :=
  gtO (T.get fr (Pos.of 0)) fun v0 => bndO (JmF192 [v0, (.int .i64 3)] h) fun v9 h1 =>
  Out.nor fr h1
def Jmd251 : F → Hp → Out := (seqO Jmr251_0 (cndX (.tmp 7) Jmr251_1 Out.nor))
def Jme251 : FuncId → Option Fun := fun f => match Nat.beq f 246 with | true => some JmF246 | false => match Nat.beq f 192 with | true => some JmF192 | false => none
def Jmp251 : Plans := fun id => none
def JmF251 : Fun := funX Tryz.prog TryG Jmk251 Jme251 Jmp251 lf Tryz.f251
theorem JmD251 : denX Tryz.prog TryG Tryz.f251.ntmps Jmk251 Jme251 Jmp251 lf (codeOf Tryz.f251) = Jmd251 := by kernel_rfl
theorem JmF251_eq (x0 x1 : V) (h : Hp) : JmF251 [x0, x1] h = outR Tryz.prog [] (Jmd251 (T.set (some x1) (Pos.of 1) (T.set (some x0) (Pos.of 0) T.nil)) h) := funX_eq (by kernel_rfl) JmD251 (by kernel_rfl) h
theorem Jmc251 : CallOk Tryz.prog TryG 251 JmF251 := funX_ok Trymix (callsOk_cons Jmc246 (callsOk_cons Jmc192 callsOk_0)) Tryz.func251 (by kernel_rfl)
def Jmk190 : Nat → Bool := fun t => memN t [0, 11, 20, 21]
def Jmr190_0 (fr : F) (h : Hp) : Out :=
  gtO (T.get fr (Pos.of 0)) fun w0_0 => bndO (oNilCheck w0_0 (bumpH 0 h)) fun v3 _ =>
  bndO (oFieldAddr 1 v3 (bumpH 0 h)) fun v4 _ =>
  bndO (oLoad1 v4 (bumpH 0 h)) fun v5 _ =>
  gtO (T.get fr (Pos.of 0)) fun w4_0 => bndO (oNilCheck w4_0 (bumpH 0 h)) fun v7 _ =>
  bndO (oFieldAddr 0 v7 (bumpH 0 h)) fun v8 _ =>
  bndO (oLoad1 v8 (bumpH 0 h)) fun v9 _ =>
  bndO (oLenK 1 v9 (bumpH 0 h)) fun v10 _ =>
  bndO (oBin .lss .none v5 v10 (bumpH 0 h)) fun v11 _ =>
  Out.nor (T.set (some v11) (Pos.of 11) fr) (bumpH 0 h)
def Jmr190_1 (fr : F) (h : Hp) : Out :=
  gtO (T.get fr (Pos.of 0)) fun w0_0 => bndO (oNilCheck w0_0 (bumpH 0 h)) fun v13 _ =>
  bndO (oFieldAddr 0 v13 (bumpH 0 h)) fun v14 _ =>
  bndO (oLoad1 v14 (bumpH 0 h)) fun v15 _ =>
  gtO (T.get fr (Pos.of 0)) fun w4_0 => bndO (oNilCheck w4_0 (bumpH 0 h)) fun v17 _ =>
  bndO (oFieldAddr 1 v17 (bumpH 0 h)) fun v18 _ =>
  bndO (oLoad1 v18 (bumpH 0 h)) fun v19 _ =>
  bndO (oIdxStr v15 v19 (bumpH 0 h)) fun v20 _ =>
  Out.nor (T.set (some v20) (Pos.of 20) fr) (bumpH 0 h)
def Jmr190_2 (fr : F) (h : Hp) : Out :=
  gtO (T.get fr (Pos.of 20)) fun v20 => bndO (oBin .eql .none v20 (.int .u8 32) h) fun v22 h0 =>
  Out.nor (T.set (some v22) (Pos.of 21) fr) h0
def Jmr190_3 (fr : F) (h : Hp) : Out :=
  gtO (T.get fr (Pos.of 20)) fun v20 => bndO (oBin .eql .none v20 (.int .u8 9) h) fun v23 h0 =>
  Out.nor (T.set (some v23) (Pos.of 21) fr) h0
def Jmr190_4 (fr : F) (h : Hp) : Out :=
  gtO (T.get fr (Pos.of 20)) fun v20 => bndO (oBin .eql .none v20 (.int .u8 10) h) fun v24 h0 =>
  Out.nor (T.set (some v24) (Pos.of 21) fr) h0
def Jmr190_5 (fr : F) (h : Hp) : Out :=
  gtO (T.get fr (Pos.of 20)) fun v20 => bndO (oBin .eql .none v20 (.int .u8 13) h) fun v25 h0 =>
  Out.nor (T.set (some v25) (Pos.of 21) fr) h0
def Jmr190_6 (fr : F) (h : Hp) : Out :=
  gtO (T.get fr (Pos.of 0)) fun v0 => bndO (oNilCheck v0 h) fun v27 h1 =>
  bndO (oFieldAddr 1 v27 h1) fun v28 h2 =>
  bndO (oLoad1 v28 h2) fun v29 h3 =>
  bndO (oBin .add .none v29 (.int .i64 1) h3) fun v30 h4 =>
  bndO (oNilCheck v0 h4) fun v31 h5 =>
  bndO (oFieldAddr 1 v31 h5) fun v32 h6 =>
  bndO (oStore 1 v32 v30 h6) fun _u7 h7 =>
  Out.nor fr h7
def Jmb190_0 : F → Hp → Out := (seqO (seqO Jmr190_0 (cndX (.tmp 11) Out.nor (Out.ex 0))) (blkO 1 (seqO (seqO Jmr190_1 (blkO 2 (seqO (seqO Jmr190_2 (cndX (.tmp 21) Out.nor (seqO Jmr190_3 (cndX (.tmp 21) Out.nor (seqO Jmr190_4 (cndX (.tmp 21) Out.nor Jmr190_5)))))) (cndX (.tmp 21) (seqO Jmr190_6 (Out.ex 1)) Out.nor)))) Out.ret)))
def Jmd190 : F → Hp → Out := (blkO 0 (loopO Jmb190_0 lf))
def Jme190 : FuncId → Option Fun := fun f => none
def Jmp190 : Plans := fun id => match Nat.beq id 0 with | true => some ([0, 1, 3, 7, 0, 16, 48, 112, 240, 511], [(0, .pure), (1, .pure), (2, .pure), (3, .read 0), (4, .pure), (5, .pure), (6, .pure), (7, .read 0), (8, .pure), (9, .pure)]) | false => match Nat.beq id 1 with | true => some ([0, 1, 3, 7, 0, 16, 48, 112, 255], [(0, .pure), (1, .pure), (2, .pure), (3, .read 0), (4, .pure), (5, .pure), (6, .pure), (7, .read 0), (8, .pure)]) | false => none
def JmF190 : Fun := funX Tryz.prog TryG Jmk190 Jme190 Jmp190 lf Tryz.f190
theorem JmD190 : denX Tryz.prog TryG Tryz.f190.ntmps Jmk190 Jme190 Jmp190 lf (codeOf Tryz.f190) = Jmd190 := by kernel_rfl
theorem JmF190_eq (x0 : V) (h : Hp) : JmF190 [x0] h = outR Tryz.prog [] (Jmd190 (T.set (some x0) (Pos.of 0) T.nil) h) := funX_eq (by kernel_rfl) JmD190 (by kernel_rfl) h
theorem Jmc190 : CallOk Tryz.prog TryG 190 JmF190 := funX_ok Trymix callsOk_0 Tryz.func190 (by kernel_rfl)
def Jmk250 : Nat → Bool := fun t => memN t [0, 2, 3, 4, 5, 21, 40, 63, 68]
def Jmr250_0 (fr : F) (h : Hp) : Out :=
  Out.nor (T.set (some (.str [])) (Pos.of 2) fr) h
def Jmr250_1 (fr : F) (h : Hp) : Out :=
  gtO (T.get fr (Pos.of 0)) fun v0 => bndO (JmF251 [v0, (.str [34])] h) fun v7 h1 =>
  Out.nor fr h1
def Jmr250_2 (fr : F) (h : Hp) : Out :=
  Out.nor (T.set (some .nils) (Pos.of 3) fr) h
def Jmr250_8 (fr : F) (h : Hp) : Out :=
  gtO (T.get fr (Pos.of 0)) fun w0_0 => bndO (oNilCheck w0_0 (bumpH 0 h)) fun v42 _ =>
  bndO (oFieldAddr 1 v42 (bumpH 0 h)) fun v43 _ =>
  bndO (oLoad1 v43 (bumpH 0 h)) fun v44 _ =>
  gtO (T.get fr (Pos.of 0)) fun w4_0 => bndO (oNilCheck w4_0 (bumpH 0 h)) fun v46 _ =>
  bndO (oFieldAddr 0 v46 (bumpH 0 h)) fun v47 _ =>
  bndO (oLoad1 v47 (bumpH 0 h)) fun v48 _ =>
  bndO (oLenK 1 v48 (bumpH 0 h)) fun v49 _ =>
  bndO (oBin .eql .none v44 v49 (bumpH 0 h)) fun v50 _ =>
  Out.nor (T.set (some v50) (Pos.of 40) fr) (bumpH 0 h)
def Jmr250_9 (fr : F) (h : Hp) : Out :=
  gtO (T.get fr (Pos.of 0)) fun w0_0 => bndO (oNilCheck w0_0 (bumpH 0 h)) fun v52 _ =>
  bndO (oFieldAddr 0 v52 (bumpH 0 h)) fun v53 _ =>
  bndO (oLoad1 v53 (bumpH 0 h)) fun v54 _ =>
  gtO (T.get fr (Pos.of 0)) fun w4_0 => bndO (oNilCheck w4_0 (bumpH 0 h)) fun v56 _ =>
  bndO (oFieldAddr 1 v56 (bumpH 0 h)) fun v57 _ =>
  bndO (oLoad1 v57 (bumpH 0 h)) fun v58 _ =>
  bndO (oIdxStr v54 v58 (bumpH 0 h)) fun v59 _ =>
  bndO (oBin .lss .none v59 (.int .u8 32) (bumpH 0 h)) fun v60 _ =>
  Out.nor (T.set (some v60) (Pos.of 40) fr) (bumpH 0 h)
def Jmr250_10 (fr : F) (h : Hp) : Out :=
  gtO (T.get fr (Pos.of 0)) fun v0 => bndO (JmF192 [v0, (.int .i64 3)] h) fun v62 h1 =>
  Out.nor fr h1
def Jmr250_11 (fr : F) (h : Hp) : Out :=
  gtO (T.get fr (Pos.of 0)) fun v0 => bndO (JmF246 [v0, (.str [34])] h) fun v65 h1 =>
  Out.nor (T.set (some v65) (Pos.of 63) fr) h1
def Jmr250_12 (fr : F) (h : Hp) : Out :=
  gtO (T.get fr (Pos.of 3)) fun v3 => bndO (oBytesStr v3 h) fun v67 h1 =>
  Out.nor (T.set (some v67) (Pos.of 2) fr) h1
def Jmr250_13 (fr : F) (h : Hp) : Out :=
  gtO (T.get fr (Pos.of 0)) fun v0 => bndO (JmF246 [v0, (.str [92])] h) fun v70 h1 =>
  Out.nor (T.set (some v70) (Pos.of 68) fr) h1
def Jmr250_14 (fr : F) (h : Hp) : Out :=
  gtO (T.get fr (Pos.of 3)) fun v3 => gtO (T.get fr (Pos.of 0)) fun v0 => bndO (JmF343 [v0] h) fun v73 h2 =>
  bndO (oAppend 5 1 1 v3 v73 h2) fun v74 h3 =>
  Out.nor (T.set (some v74) (Pos.of 3) fr) h3
def Jmr250_3 (fr : F) (h : Hp) : Out :=
  gtO (T.get fr (Pos.of 0)) fun w0_0 => bndO (oNilCheck w0_0 (bumpH 0 h)) fun v10 _ =>
  bndO (oFieldAddr 0 v10 (bumpH 0 h)) fun v11 _ =>
  bndO (oLoad1 v11 (bumpH 0 h)) fun v12 _ =>
  gtO (T.get fr (Pos.of 0)) fun w4_0 => bndO (oNilCheck w4_0 (bumpH 0 h)) fun v14 _ =>
  bndO (oFieldAddr 1 v14 (bumpH 0 h)) fun v15 _ =>
  bndO (oLoad1 v15 (bumpH 0 h)) fun v16 _ =>
  bndO (JmF224 [v12, v16] (bumpH 0 h)) fun v17 h8 =>
  bndO (oExtract 0 v17 h8) fun v18 _ =>
  bndO (oExtract 1 v17 h8) fun v19 _ =>
  Out.nor (T.set (some v19) (Pos.of 5) (T.set (some v18) (Pos.of 4) fr)) h8
def Jmr250_4 (fr : F) (h : Hp) : Out :=
  gtO (T.get fr (Pos.of 4)) fun v4 => bndO (oBin .lss .none v4 (.int .i64 0) h) fun v21 h1 =>
  Out.nor (T.set (some v21) (Pos.of 21) fr) h1
def Jmr250_5 (fr : F) (h : Hp) : Out :=
  gtO (T.get fr (Pos.of 0)) fun v0 => bndO (JmF192 [v0, (.int .i64 3)] h) fun v23 h1 =>
  Out.nor fr h1
def Jmr250_6 (fr : F) (h : Hp) : Out :=
  gtO (T.get fr (Pos.of 3)) fun w0_3 => gtO (T.get fr (Pos.of 0)) fun w1_0 => bndO (oNilCheck w1_0 (bumpH 0 h)) fun v26 _ =>
  bndO (oFieldAddr 0 v26 (bumpH 0 h)) fun v27 _ =>
  bndO (oLoad1 v27 (bumpH 0 h)) fun v28 _ =>
  gtO (T.get fr (Pos.of 0)) fun w5_0 => bndO (oNilCheck w5_0 (bumpH 0 h)) fun v30 _ =>
  bndO (oFieldAddr 1 v30 (bumpH 0 h)) fun v31 _ =>
  bndO (oLoad1 v31 (bumpH 0 h)) fun v32 _ =>
  gtO (T.get fr (Pos.of 5)) fun w9_5 => bndO (oSliceStr v28 (some v32) (some w9_5) (bumpH 0 h)) fun v34 _ =>
  bndO (oAppend 5 1 1 w0_3 v34 (bumpH 0 h)) fun v35 h11 =>
  Out.nor (T.set (some v35) (Pos.of 3) fr) h11
def Jmr250_7 (fr : F) (h : Hp) : Out :=
  gtO (T.get fr (Pos.of 0)) fun v0 => gtO (T.get fr (Pos.of 5)) fun v5 => bndO (oNilCheck v0 h) fun v38 h2 =>
  bndO (oFieldAddr 1 v38 h2) fun v39 h3 =>
  bndO (oStore 1 v39 v5 h3) fun _u4 h4 =>
  Out.nor fr h4
def Jmb250_8 : F → Hp → Out := (blkO 1 (blkO 2 (seqO (seqO Jmr250_8 (cndX (.tmp 40) Out.nor Jmr250_9)) (cndX (.tmp 40) Jmr250_10 (seqO Jmr250_11 (cndX (.tmp 63) (seqO Jmr250_12 Out.ret) (seqO Jmr250_13 (cndX (.tmp 68) Jmr250_14 (seqO Jmr250_3 (seqO (seqO Jmr250_4 (cndX (.tmp 21) Jmr250_5 Out.nor)) (seqO Jmr250_6 Jmr250_7)))))))))))
def Jmd250 : F → Hp → Out := (seqO Jmr250_0 (seqO Jmr250_1 (seqO Jmr250_2 (blkO 0 (loopO Jmb250_8 lf)))))
def Jme250 : FuncId → Option Fun := fun f => match Nat.beq f 251 with | true => some JmF251 | false => match Nat.beq f 192 with | true => some JmF192 | false => match Nat.beq f 246 with | true => some JmF246 | false => match Nat.beq f 343 with | true => some JmF343 | false => match Nat.beq f 224 with | true => some JmF224 | false => none
def Jmp250 : Plans := fun id => match Nat.beq id 8 with | true => some ([0, 1, 3, 7, 0, 16, 48, 112, 240, 511, 1023], [(0, .pure), (1, .pure), (2, .pure), (3, .read 0), (4, .pure), (5, .pure), (6, .pure), (7, .read 0), (8, .pure), (9, .pure), (10, .pure)]) | false => match Nat.beq id 9 with | true => some ([0, 1, 3, 7, 0, 16, 48, 112, 255, 511, 1023], [(0, .pure), (1, .pure), (2, .pure), (3, .read 0), (4, .pure), (5, .pure), (6, .pure), (7, .read 0), (8, .pure), (9, .pure), (10, .pure)]) | false => match Nat.beq id 3 with | true => some ([0, 1, 3, 7, 0, 16, 48, 112, 255, 511, 1023, 1023, 2047, 8191], [(0, .pure), (1, .pure), (2, .pure), (3, .read 0), (4, .pure), (5, .pure), (6, .pure), (7, .read 0), (8, .heavy), (9, .pure), (10, .pure), (11, .pure), (12, .pure), (13, .pure)]) | false => match Nat.beq id 6 with | true => some ([0, 0, 2, 6, 14, 0, 32, 96, 224, 0, 1022, 2047, 4095], [(0, .pure), (1, .pure), (2, .pure), (3, .pure), (4, .read 0), (5, .pure), (6, .pure), (7, .pure), (8, .read 0), (9, .pure), (10, .pure), (11, .heavy), (12, .pure)]) | false => none
def JmF250 : Fun := funX Tryz.prog TryG Jmk250 Jme250 Jmp250 lf Tryz.f250
theorem JmD250 : denX Tryz.prog TryG Tryz.f250.ntmps Jmk250 Jme250 Jmp250 lf (codeOf Tryz.f250) = Jmd250 := by kernel_rfl
theorem JmF250_eq (x0 : V) (h : Hp) : JmF250 [x0] h = outR Tryz.prog [.tmp 2] (Jmd250 (T.set (some x0) (Pos.of 0) T.nil) h) := funX_eq (by kernel_rfl) JmD250 (by kernel_rfl) h
theorem Jmc250 : CallOk Tryz.prog TryG 250 JmF250 := funX_ok Trymix (callsOk_cons Jmc251 (callsOk_cons Jmc192 (callsOk_cons Jmc246 (callsOk_cons Jmc343 (callsOk_cons Jmc224 callsOk_0))))) Tryz.func250 (by kernel_rfl)
def JmF49 : Fun := fun _ _ => .bad
theorem Jmc49 : CallOk Tryz.prog TryG 49 JmF49 := fun _ _ _ _ _ _ _ e => by cases e
def JmF187 : Fun := fun _ _ => .bad
theorem Jmc187 : CallOk Tryz.prog TryG 187 JmF187 := fun _ _ _ _ _ _ _ e => by cases e
def Jmk186 : Nat → Bool := fun t => memN t [0, 1, 4, 34]
def Jmr186_0 (fr : F) (h : Hp) : Out :=
  Out.nor (T.set (some (.bool false)) (Pos.of 4) fr) h
def Jmr186_1 (fr : F) (h : Hp) : Out :=
  gtO (T.get fr (Pos.of 0)) fun w0_0 => bndO (oNilCheck w0_0 (bumpH 0 h)) fun v6 _ =>
  bndO (oFieldAddr 3 v6 (bumpH 0 h)) fun v7 _ =>
  bndO (oLoad1 v7 (bumpH 0 h)) fun v8 _ =>
  bndO (oBin .eql .none v8 (.int .i64 0) (bumpH 0 h)) fun v9 _ =>
  ifB v9 (gtO (T.get fr (Pos.of 0)) fun w6_0 => bndO (oNilCheck w6_0 (bumpH 0 h)) fun v12 _ =>
  bndO (oFieldAddr 1 v12 (bumpH 0 h)) fun v13 _ =>
  bndO (oLoad1 v13 (bumpH 0 h)) fun v14 _ =>
  gtO (T.get fr (Pos.of 0)) fun w10_0 => bndO (oNilCheck w10_0 (bumpH 0 h)) fun v16 _ =>
  bndO (oFieldAddr 0 v16 (bumpH 0 h)) fun v17 _ =>
  bndO (oLoad1 v17 (bumpH 0 h)) fun v18 _ =>
  bndO (oLenK 1 v18 (bumpH 0 h)) fun v19 _ =>
  bndO (oBin .lss .none v14 v19 (bumpH 0 h)) fun v20 _ =>
  ifB v20 (gtO (T.get fr (Pos.of 0)) fun w18_0 => bndO (oNilCheck w18_0 (bumpH 0 h)) fun v24 _ =>
  bndO (oFieldAddr 0 v24 (bumpH 0 h)) fun v25 _ =>
  bndO (oLoad1 v25 (bumpH 0 h)) fun v26 _ =>
  gtO (T.get fr (Pos.of 0)) fun w22_0 => bndO (oNilCheck w22_0 (bumpH 0 h)) fun v28 _ =>
  bndO (oFieldAddr 1 v28 (bumpH 0 h)) fun v29 _ =>
  bndO (oLoad1 v29 (bumpH 0 h)) fun v30 _ =>
  bndO (oIdxStr v26 v30 (bumpH 0 h)) fun v31 _ =>
  gtO (T.get fr (Pos.of 1)) fun w27_1 => bndO (oBin .eql .none v31 w27_1 (bumpH 0 h)) fun v33 _ =>
  Out.nor (T.set (some v33) (Pos.of 34) fr) (bumpH 0 h)) (Out.nor (T.set (some (.bool false)) (Pos.of 34) fr) (bumpH 0 h))) (Out.nor (T.set (some (.bool false)) (Pos.of 34) fr) (bumpH 0 h))
def Jmr186_2 (fr : F) (h : Hp) : Out :=
  gtO (T.get fr (Pos.of 0)) fun v0 => bndO (oNilCheck v0 h) fun v36 h1 =>
  bndO (oFieldAddr 1 v36 h1) fun v37 h2 =>
  bndO (oLoad1 v37 h2) fun v38 h3 =>
  bndO (oBin .add .none v38 (.int .i64 1) h3) fun v39 h4 =>
  bndO (oNilCheck v0 h4) fun v40 h5 =>
  bndO (oFieldAddr 1 v40 h5) fun v41 h6 =>
  bndO (oStore 1 v41 v39 h6) fun _u7 h7 =>
  Out.nor fr h7
def Jmr186_3 (fr : F) (h : Hp) : Out :=
  Out.nor (T.set (some (.bool true)) (Pos.of 4) fr) h
def Jmr186_4 (fr : F) (h : Hp) : Out :=
  Out.nor (T.set (some (.bool false)) (Pos.of 4) fr) h
def Jmd186 : F → Hp → Out := (seqO Jmr186_0 (seqO (seqO Jmr186_1 (cndX (.tmp 34) (seqO Jmr186_2 (seqO Jmr186_3 Out.ret)) Out.nor)) (seqO Jmr186_4 Out.ret)))
def Jme186 : FuncId → Option Fun := fun f => none
def Jmp186 : Plans := fun id => match Nat.beq id 1 with | true => some ([0, 1, 3, 7, 15, 31, 63, 127, 255, 511, 63, 1087, 3135, 7231, 15423, 32767, 65535, 131071, 262143, 524287, 1048575, 2097151, 262143, 4456447, 12845055, 29622271, 67108863, 262143, 268435455, 536870911], [(0, .pure), (1, .pure), (2, .pure), (3, .read 0), (4, .pure), (5, .pure), (6, .pure), (7, .pure), (8, .pure), (9, .read 0), (10, .pure), (11, .pure), (12, .pure), (13, .read 0), (14, .pure), (15, .pure), (16, .pure), (17, .pure), (18, .pure), (19, .pure), (20, .pure), (21, .read 0), (22, .pure), (23, .pure), (24, .pure), (25, .read 0), (26, .pure), (27, .pure), (28, .pure), (29, .pure)]) | false => none
def JmF186 : Fun := funX Tryz.prog TryG Jmk186 Jme186 Jmp186 lf Tryz.f186
theorem JmD186 : denX Tryz.prog TryG Tryz.f186.ntmps Jmk186 Jme186 Jmp186 lf (codeOf Tryz.f186) = Jmd186 := by kernel_rfl
theorem JmF186_eq (x0 x1 : V) (h : Hp) : JmF186 [x0, x1] h = outR Tryz.prog [.tmp 4] (Jmd186 (T.set (some x1) (Pos.of 1) (T.set (some x0) (Pos.of 0) T.nil)) h) := funX_eq (by kernel_rfl) JmD186 (by kernel_rfl) h
theorem Jmc186 : CallOk Tryz.prog TryG 186 JmF186 := funX_ok Trymix callsOk_0 Tryz.func186 (by kernel_rfl)
def Jmk48 : Nat → Bool := fun t => memN t [0, 59]
def Jmr48_0 (fr : F) (h : Hp) : Out :=
  gtO (T.get fr (Pos.of 0)) fun w0_0 => bndO (oNilCheck w0_0 (bumpH 0 h)) fun v3 _ =>
  bndO (oFieldAddr 1 v3 (bumpH 0 h)) fun v4 _ =>
  bndO (oLoad1 v4 (bumpH 0 h)) fun v5 _ =>
  gtO (T.get fr (Pos.of 0)) fun w4_0 => bndO (oNilCheck w4_0 (bumpH 0 h)) fun v7 _ =>
  bndO (oFieldAddr 0 v7 (bumpH 0 h)) fun v8 _ =>
  bndO (oLoad1 v8 (bumpH 0 h)) fun v9 _ =>
  bndO (oLenK 1 v9 (bumpH 0 h)) fun v10 _ =>
  bndO (oBin .lss .none v5 v10 (bumpH 0 h)) fun v11 _ =>
  ifB v11 (gtO (T.get fr (Pos.of 0)) fun w11_0 => bndO (oNilCheck w11_0 (bumpH 0 h)) fun v14 _ =>
  bndO (oFieldAddr 0 v14 (bumpH 0 h)) fun v15 _ =>
  bndO (oLoad1 v15 (bumpH 0 h)) fun v16 _ =>
  gtO (T.get fr (Pos.of 0)) fun w15_0 => bndO (oNilCheck w15_0 (bumpH 0 h)) fun v18 _ =>
  bndO (oFieldAddr 1 v18 (bumpH 0 h)) fun v19 _ =>
  bndO (oLoad1 v19 (bumpH 0 h)) fun v20 _ =>
  bndO (oIdxStr v16 v20 (bumpH 0 h)) fun v21 _ =>
  bndO (oBin .eql .none v21 (.int .u8 32) (bumpH 0 h)) fun v22 _ =>
  ifB v22 (Out.nor (T.set (some (.bool true)) (Pos.of 59) fr) (bumpH 0 h)) (gtO (T.get fr (Pos.of 0)) fun w22_0 => bndO (oNilCheck w22_0 (bumpH 0 h)) fun v25 _ =>
  bndO (oFieldAddr 0 v25 (bumpH 0 h)) fun v26 _ =>
  bndO (oLoad1 v26 (bumpH 0 h)) fun v27 _ =>
  gtO (T.get fr (Pos.of 0)) fun w26_0 => bndO (oNilCheck w26_0 (bumpH 0 h)) fun v29 _ =>
  bndO (oFieldAddr 1 v29 (bumpH 0 h)) fun v30 _ =>
  bndO (oLoad1 v30 (bumpH 0 h)) fun v31 _ =>
  bndO (oIdxStr v27 v31 (bumpH 0 h)) fun v32 _ =>
  bndO (oBin .eql .none v32 (.int .u8 9) (bumpH 0 h)) fun v33 _ =>
  ifB v33 (Out.nor (T.set (some (.bool true)) (Pos.of 59) fr) (bumpH 0 h)) (gtO (T.get fr (Pos.of 0)) fun w34_0 => bndO (oNilCheck w34_0 (bumpH 0 h)) fun v37 _ =>
  bndO (oFieldAddr 0 v37 (bumpH 0 h)) fun v38 _ =>
  bndO (oLoad1 v38 (bumpH 0 h)) fun v39 _ =>
  gtO (T.get fr (Pos.of 0)) fun w38_0 => bndO (oNilCheck w38_0 (bumpH 0 h)) fun v41 _ =>
  bndO (oFieldAddr 1 v41 (bumpH 0 h)) fun v42 _ =>
  bndO (oLoad1 v42 (bumpH 0 h)) fun v43 _ =>
  bndO (oIdxStr v39 v43 (bumpH 0 h)) fun v44 _ =>
  bndO (oBin .eql .none v44 (.int .u8 10) (bumpH 0 h)) fun v45 _ =>
  ifB v45 (Out.nor (T.set (some (.bool true)) (Pos.of 59) fr) (bumpH 0 h)) (gtO (T.get fr (Pos.of 0)) fun w46_0 => bndO (oNilCheck w46_0 (bumpH 0 h)) fun v49 _ =>
  bndO (oFieldAddr 0 v49 (bumpH 0 h)) fun v50 _ =>
  bndO (oLoad1 v50 (bumpH 0 h)) fun v51 _ =>
  gtO (T.get fr (Pos.of 0)) fun w50_0 => bndO (oNilCheck w50_0 (bumpH 0 h)) fun v53 _ =>
  bndO (oFieldAddr 1 v53 (bumpH 0 h)) fun v54 _ =>
  bndO (oLoad1 v54 (bumpH 0 h)) fun v55 _ =>
  bndO (oIdxStr v51 v55 (bumpH 0 h)) fun v56 _ =>
  bndO (oBin .eql .none v56 (.int .u8 13) (bumpH 0 h)) fun v57 _ =>
  Out.nor (T.set (some v57) (Pos.of 59) fr) (bumpH 0 h))))) (Out.nor (T.set (some (.bool false)) (Pos.of 59) fr) (bumpH 0 h))
def Jmr48_1 (fr : F) (h : Hp) : Out :=
  gtO (T.get fr (Pos.of 0)) fun v0 => bndO (oNilCheck v0 h) fun v61 h1 =>
  bndO (oFieldAddr 1 v61 h1) fun v62 h2 =>
  bndO (oLoad1 v62 h2) fun v63 h3 =>
  bndO (oBin .add .none v63 (.int .i64 1) h3) fun v64 h4 =>
  bndO (oNilCheck v0 h4) fun v65 h5 =>
  bndO (oFieldAddr 1 v65 h5) fun v66 h6 =>
  bndO (oStore 1 v66 v64 h6) fun _u7 h7 =>
  Out.nor fr h7
def Jmb48_0 : F → Hp → Out := (seqO (seqO Jmr48_0 (cndX (.tmp 59) Out.nor (Out.ex 0))) (blkO 1 Jmr48_1))
def Jmd48 : F → Hp → Out := (blkO 0 (loopO Jmb48_0 lf))
def Jme48 : FuncId → Option Fun := fun f => none
def Jmp48 : Plans := fun id => match Nat.beq id 0 with | true => some ([0, 1, 3, 7, 0, 16, 48, 112, 240, 511, 1023, 2047, 4095, 8191, 16383, 2047, 34815, 100351, 231423, 524287, 1048575, 2097151, 4194303, 8388607, 16777215, 33554431, 4194303, 71303167, 205520895, 473956351, 1073741823, 2147483647, 4294967295, 8589934591, 17179869183, 34359738367, 68719476735, 137438953471, 17179869183, 292057776127, 841813590015, 1941325217791, 4398046511103, 8796093022207, 17592186044415, 35184372088831, 70368744177663, 140737488355327, 281474976710655, 562949953421311, 70368744177663, 1196268651020287, 3448068464705535, 7951668092076031, 18014398509481983, 36028797018963967, 72057594037927935, 144115188075855871], [(0, .pure), (1, .pure), (2, .pure), (3, .read 0), (4, .pure), (5, .pure), (6, .pure), (7, .read 0), (8, .pure), (9, .pure), (10, .pure), (11, .pure), (12, .pure), (13, .pure), (14, .read 0), (15, .pure), (16, .pure), (17, .pure), (18, .read 0), (19, .pure), (20, .pure), (21, .pure), (22, .pure), (23, .pure), (24, .pure), (25, .read 0), (26, .pure), (27, .pure), (28, .pure), (29, .read 0), (30, .pure), (31, .pure), (32, .pure), (33, .pure), (34, .pure), (35, .pure), (36, .pure), (37, .read 0), (38, .pure), (39, .pure), (40, .pure), (41, .read 0), (42, .pure), (43, .pure), (44, .pure), (45, .pure), (46, .pure), (47, .pure), (48, .pure), (49, .read 0), (50, .pure), (51, .pure), (52, .pure), (53, .read 0), (54, .pure), (55, .pure), (56, .pure), (57, .pure)]) | false => none
def JmF48 : Fun := funX Tryz.prog TryG Jmk48 Jme48 Jmp48 lf Tryz.f48
theorem JmD48 : denX Tryz.prog TryG Tryz.f48.ntmps Jmk48 Jme48 Jmp48 lf (codeOf Tryz.f48) = Jmd48 := by kernel_rfl
theorem JmF48_eq (x0 : V) (h : Hp) : JmF48 [x0] h = outR Tryz.prog [] (Jmd48 (T.set (some x0) (Pos.of 0) T.nil) h) := funX_eq (by kernel_rfl) JmD48 (by kernel_rfl) h
theorem Jmc48 : CallOk Tryz.prog TryG 48 JmF48 := funX_ok Trymix callsOk_0 Tryz.func48 (by kernel_rfl)
def Jmk123 : Nat → Bool := fun t => memN t [0, 2, 3, 4, 5, 6, 11, 21, 46, 65, 77, 91]
def Jmr123_0 (fr : F) (h : Hp) : Out :=
  Out.nor (T.set (some (.str [])) (Pos.of 2) fr) h
def Jmr123_1 (fr : F) (h : Hp) : Out :=
  Out.nor (T.set (some .nils) (Pos.of 3) fr) h
def Jmr123_2 (fr : F) (h : Hp) : Out :=
  gtO (T.get fr (Pos.of 0)) fun v0 => bndO (oNilCheck v0 h) fun v8 h1 =>
  bndO (oFieldAddr 3 v8 h1) fun v9 h2 =>
  bndO (oLoad1 v9 h2) fun v10 h3 =>
  bndO (oBin .eql .none v10 (.int .i64 0) h3) fun v11 h4 =>
  Out.nor (T.set (some v11) (Pos.of 11) fr) h4
def Jmr123_3 (fr : F) (h : Hp) : Out :=
  gtO (T.get fr (Pos.of 0)) fun w0_0 => bndO (oNilCheck w0_0 (bumpH 0 h)) fun v13 _ =>
  bndO (oFieldAddr 1 v13 (bumpH 0 h)) fun v14 _ =>
  bndO (oLoad1 v14 (bumpH 0 h)) fun v15 _ =>
  gtO (T.get fr (Pos.of 0)) fun w4_0 => bndO (oNilCheck w4_0 (bumpH 0 h)) fun v17 _ =>
  bndO (oFieldAddr 0 v17 (bumpH 0 h)) fun v18 _ =>
  bndO (oLoad1 v18 (bumpH 0 h)) fun v19 _ =>
  bndO (oLenK 1 v19 (bumpH 0 h)) fun v20 _ =>
  bndO (oBin .geq .none v15 v20 (bumpH 0 h)) fun v21 _ =>
  Out.nor (T.set (some v21) (Pos.of 21) fr) (bumpH 0 h)
def Jmr123_4 (fr : F) (h : Hp) : Out :=
  gtO (T.get fr (Pos.of 0)) fun v0 => bndO (JmF49 [v0, (.int .i64 3)] h) fun v23 h1 =>
  Out.nor fr h1
def Jmr123_5 (fr : F) (h : Hp) : Out :=
  gtO (T.get fr (Pos.of 0)) fun w0_0 => bndO (oNilCheck w0_0 (bumpH 0 h)) fun v25 _ =>
  bndO (oFieldAddr 0 v25 (bumpH 0 h)) fun v26 _ =>
  bndO (oLoad1 v26 (bumpH 0 h)) fun v27 _ =>
  gtO (T.get fr (Pos.of 0)) fun w4_0 => bndO (oNilCheck w4_0 (bumpH 0 h)) fun v29 _ =>
  bndO (oFieldAddr 1 v29 (bumpH 0 h)) fun v30 _ =>
  bndO (oLoad1 v30 (bumpH 0 h)) fun v31 _ =>
  bndO (oIdxStr v27 v31 (bumpH 0 h)) fun v32 _ =>
  Out.nor (T.set (some v32) (Pos.of 4) fr) (bumpH 0 h)
def Jmr123_11 (fr : F) (h : Hp) : Out :=
  gtO (T.get fr (Pos.of 4)) fun v4 => bndO (oBin .eql .none v4 (.int .u8 34) h) fun v67 h1 =>
  Out.nor (T.set (some v67) (Pos.of 65) fr) h1
def Jmr123_12 (fr : F) (h : Hp) : Out :=
  gtO (T.get fr (Pos.of 0)) fun v0 => bndO (oNilCheck v0 h) fun v69 h1 =>
  bndO (oFieldAddr 1 v69 h1) fun v70 h2 =>
  bndO (oLoad1 v70 h2) fun v71 h3 =>
  bndO (oBin .add .none v71 (.int .i64 1) h3) fun v72 h4 =>
  bndO (oNilCheck v0 h4) fun v73 h5 =>
  bndO (oFieldAddr 1 v73 h5) fun v74 h6 =>
  bndO (oStore 1 v74 v72 h6) fun _u7 h7 =>
  Out.nor fr h7
def Jmr123_13 (fr : F) (h : Hp) : Out :=
  gtO (T.get fr (Pos.of 3)) fun v3 => bndO (oBytesStr v3 h) fun v76 h1 =>
  Out.nor (T.set (some v76) (Pos.of 2) fr) h1
def Jmr123_14 (fr : F) (h : Hp) : Out :=
  gtO (T.get fr (Pos.of 4)) fun v4 => bndO (oBin .eql .none v4 (.int .u8 92) h) fun v79 h1 =>
  Out.nor (T.set (some v79) (Pos.of 77) fr) h1
def Jmr123_15 (fr : F) (h : Hp) : Out :=
  gtO (T.get fr (Pos.of 0)) fun v0 => bndO (oNilCheck v0 h) fun v81 h1 =>
  bndO (oFieldAddr 1 v81 h1) fun v82 h2 =>
  bndO (oLoad1 v82 h2) fun v83 h3 =>
  bndO (oBin .add .none v83 (.int .i64 1) h3) fun v84 h4 =>
  bndO (oNilCheck v0 h4) fun v85 h5 =>
  bndO (oFieldAddr 1 v85 h5) fun v86 h6 =>
  bndO (oStore 1 v86 v84 h6) fun _u7 h7 =>
  Out.nor fr h7
def Jmr123_16 (fr : F) (h : Hp) : Out :=
  gtO (T.get fr (Pos.of 3)) fun v3 => gtO (T.get fr (Pos.of 0)) fun v0 => bndO (JmF187 [v0] h) fun v89 h2 =>
  bndO (oAppend 5 1 1 v3 v89 h2) fun v90 h3 =>
  Out.nor (T.set (some v90) (Pos.of 3) fr) h3
def Jmr123_17 (fr : F) (h : Hp) : Out :=
  gtO (T.get fr (Pos.of 4)) fun v4 => bndO (oBin .lss .none v4 (.int .u8 32) h) fun v93 h1 =>
  Out.nor (T.set (some v93) (Pos.of 91) fr) h1
def Jmr123_18 (fr : F) (h : Hp) : Out :=
  gtO (T.get fr (Pos.of 0)) fun v0 => bndO (JmF49 [v0, (.int .i64 3)] h) fun v95 h1 =>
  Out.nor fr h1
def Jmr123_6 (fr : F) (h : Hp) : Out :=
  gtO (T.get fr (Pos.of 0)) fun w0_0 => bndO (oNilCheck w0_0 (bumpH 0 h)) fun v35 _ =>
  bndO (oFieldAddr 0 v35 (bumpH 0 h)) fun v36 _ =>
  bndO (oLoad1 v36 (bumpH 0 h)) fun v37 _ =>
  gtO (T.get fr (Pos.of 0)) fun w4_0 => bndO (oNilCheck w4_0 (bumpH 0 h)) fun v39 _ =>
  bndO (oFieldAddr 1 v39 (bumpH 0 h)) fun v40 _ =>
  bndO (oLoad1 v40 (bumpH 0 h)) fun v41 _ =>
  bndO (JmF188 [v37, v41] (bumpH 0 h)) fun v42 h8 =>
  bndO (oExtract 0 v42 h8) fun v43 _ =>
  bndO (oExtract 1 v42 h8) fun v44 _ =>
  Out.nor (T.set (some v44) (Pos.of 6) (T.set (some v43) (Pos.of 5) fr)) h8
def Jmr123_7 (fr : F) (h : Hp) : Out :=
  gtO (T.get fr (Pos.of 5)) fun v5 => bndO (oBin .lss .none v5 (.int .i64 0) h) fun v46 h1 =>
  Out.nor (T.set (some v46) (Pos.of 46) fr) h1
def Jmr123_8 (fr : F) (h : Hp) : Out :=
  gtO (T.get fr (Pos.of 0)) fun v0 => bndO (JmF49 [v0, (.int .i64 3)] h) fun v48 h1 =>
  Out.nor fr h1
def Jmr123_9 (fr : F) (h : Hp) : Out :=
  gtO (T.get fr (Pos.of 3)) fun w0_3 => gtO (T.get fr (Pos.of 0)) fun w1_0 => bndO (oNilCheck w1_0 (bumpH 0 h)) fun v51 _ =>
  bndO (oFieldAddr 0 v51 (bumpH 0 h)) fun v52 _ =>
  bndO (oLoad1 v52 (bumpH 0 h)) fun v53 _ =>
  gtO (T.get fr (Pos.of 0)) fun w5_0 => bndO (oNilCheck w5_0 (bumpH 0 h)) fun v55 _ =>
  bndO (oFieldAddr 1 v55 (bumpH 0 h)) fun v56 _ =>
  bndO (oLoad1 v56 (bumpH 0 h)) fun v57 _ =>
  gtO (T.get fr (Pos.of 6)) fun w9_6 => bndO (oSliceStr v53 (some v57) (some w9_6) (bumpH 0 h)) fun v59 _ =>
  bndO (oAppend 5 1 1 w0_3 v59 (bumpH 0 h)) fun v60 h11 =>
  Out.nor (T.set (some v60) (Pos.of 3) fr) h11
def Jmr123_10 (fr : F) (h : Hp) : Out :=
  gtO (T.get fr (Pos.of 0)) fun v0 => gtO (T.get fr (Pos.of 6)) fun v6 => bndO (oNilCheck v0 h) fun v63 h2 =>
  bndO (oFieldAddr 1 v63 h2) fun v64 h3 =>
  bndO (oStore 1 v64 v6 h3) fun _u4 h4 =>
  Out.nor fr h4
def Jmr123_19 (fr : F) (h : Hp) : Out :=
  Out.nor (T.set (some (.str [])) (Pos.of 2) fr) h
def Jmb123_2 : F → Hp → Out := (seqO (seqO Jmr123_2 (cndX (.tmp 11) Out.nor (Out.ex 0))) (blkO 1 (seqO (seqO Jmr123_3 (cndX (.tmp 21) (seqO Jmr123_4 (Out.ex 0)) Out.nor)) (seqO Jmr123_5 (blkO 2 (seqO Jmr123_11 (cndX (.tmp 65) (seqO Jmr123_12 (seqO Jmr123_13 Out.ret)) (seqO Jmr123_14 (cndX (.tmp 77) (seqO Jmr123_15 Jmr123_16) (seqO Jmr123_17 (cndX (.tmp 91) Jmr123_18 (seqO Jmr123_6 (seqO (seqO Jmr123_7 (cndX (.tmp 46) (seqO Jmr123_8 (Out.ex 2)) Out.nor)) (seqO Jmr123_9 Jmr123_10))))))))))))))
def Jmd123 : F → Hp → Out := (seqO Jmr123_0 (seqO Jmr123_1 (seqO (blkO 0 (loopO Jmb123_2 lf)) (seqO Jmr123_19 Out.ret))))
def Jme123 : FuncId → Option Fun := fun f => match Nat.beq f 49 with | true => some JmF49 | false => match Nat.beq f 187 with | true => some JmF187 | false => match Nat.beq f 188 with | true => some JmF188 | false => none
def Jmp123 : Plans := fun id => match Nat.beq id 3 with | true => some ([0, 1, 3, 7, 0, 16, 48, 112, 240, 511], [(0, .pure), (1, .pure), (2, .pure), (3, .read 0), (4, .pure), (5, .pure), (6, .pure), (7, .read 0), (8, .pure), (9, .pure)]) | false => match Nat.beq id 5 with | true => some ([0, 1, 3, 7, 0, 16, 48, 112, 255, 511], [(0, .pure), (1, .pure), (2, .pure), (3, .read 0), (4, .pure), (5, .pure), (6, .pure), (7, .read 0), (8, .pure), (9, .pure)]) | false => match Nat.beq id 6 with | true => some ([0, 1, 3, 7, 0, 16, 48, 112, 255, 511, 1023, 1023, 2047, 8191], [(0, .pure), (1, .pure), (2, .pure), (3, .read 0), (4, .pure), (5, .pure), (6, .pure), (7, .read 0), (8, .heavy), (9, .pure), (10, .pure), (11, .pure), (12, .pure), (13, .pure)]) | false => match Nat.beq id 9 with | true => some ([0, 0, 2, 6, 14, 0, 32, 96, 224, 0, 1022, 2047, 4095], [(0, .pure), (1, .pure), (2, .pure), (3, .pure), (4, .read 0), (5, .pure), (6, .pure), (7, .pure), (8, .read 0), (9, .pure), (10, .pure), (11, .heavy), (12, .pure)]) | false => none
def JmF123 : Fun := funX Tryz.prog TryG Jmk123 Jme123 Jmp123 lf Tryz.f123
theorem JmD123 : denX Tryz.prog TryG Tryz.f123.ntmps Jmk123 Jme123 Jmp123 lf (codeOf Tryz.f123) = Jmd123 := by kernel_rfl
theorem JmF123_eq (x0 : V) (h : Hp) : JmF123 [x0] h = outR Tryz.prog [.tmp 2] (Jmd123 (T.set (some x0) (Pos.of 0) T.nil) h) := funX_eq (by kernel_rfl) JmD123 (by kernel_rfl) h
theorem Jmc123 : CallOk Tryz.prog TryG 123 JmF123 := funX_ok Trymix (callsOk_cons Jmc49 (callsOk_cons Jmc187 (callsOk_cons Jmc188 callsOk_0))) Tryz.func123 (by kernel_rfl)
end Go.Proofs.Jm
