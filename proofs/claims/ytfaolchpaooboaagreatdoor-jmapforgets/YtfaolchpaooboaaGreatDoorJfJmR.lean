/- Part of the value machine, or of a walk by it: lemmas that the claim's last text uses. No conditions. -/
import Derived.Test.YtfaolchpaooboaaGreatDoorJfJmM
set_option linter.unusedVariables false
set_option linter.unusedSimpArgs false
set_option linter.unnecessarySimpa false
noncomputable section
namespace Go.Proofs.Jm
open Go Go.Proofs Go.Vm
set_option linter.unusedVariables false
set_option linter.unusedSimpArgs false
set_option maxRecDepth 100000
set_option maxHeartbeats 4000000
def Tryk3 : Nat → Bool := fun t => memN t [0, 1, 4, 5, 6, 7, 9, 10, 12, 13, 14, 15, 16, 25, 43, 58, 82]
def Tryr3_0 (fr : F) (h : Hp) : Out :=
  Out.nor (T.set (some (.bool false)) (Pos.of 4) fr) h
def Tryr3_1 (fr : F) (h : Hp) : Out :=
  bndO (TryF5 [.nils] h) fun v18 h0 =>
  Out.nor (T.set (some v18) (Pos.of 5) fr) h0
def Tryr3_2 (fr : F) (h : Hp) : Out :=
  bndO (TryF6 [] h) fun v19 h0 =>
  Out.nor (T.set (some v19) (Pos.of 6) fr) h0
def Tryr3_3 (fr : F) (h : Hp) : Out :=
  gtO (T.get fr (Pos.of 5)) fun v5 => bndO (oBin .eql (.ptr 16) v5 .nilp h) fun v21 h1 =>
  ifB v21 (Out.nor (T.set (some (.bool true)) (Pos.of 25) fr) h1) (gtO (T.get fr (Pos.of 6)) fun v6 => bndO (oBin .eql (.ptr 6) v6 .nilp h1) fun v24 h4 =>
  Out.nor (T.set (some v24) (Pos.of 25) fr) h4)
def Tryr3_4 (fr : F) (h : Hp) : Out :=
  Out.nor (T.set (some (.bool false)) (Pos.of 4) fr) h
def Tryr3_5 (fr : F) (h : Hp) : Out :=
  gtO (T.get fr (Pos.of 0)) fun v0 => bndO (oConvInt .i64 v0 h) fun v27 h1 =>
  bndO (oBin .rem .none v27 (.int .i64 12) h1) fun v28 h2 =>
  Out.nor (T.set (some v28) (Pos.of 7) fr) h2
def Tryr3_6 (fr : F) (h : Hp) : Out :=
  gtO (T.get fr (Pos.of 6)) fun v6 => gtO (T.get fr (Pos.of 5)) fun v5 => bndO (TryF8 [.nils] h) fun v32 h2 =>
  bndO (TryF7m [v6, v5, (.str [69, 109, 97, 105, 108, 47, 113, 117, 101, 114, 121]), v32] h2) fun v33 h3 =>
  bndO (oExtract 0 v33 h3) fun v34 h5 =>
  bndO (oExtract 1 v33 h5) fun v35 h6 =>
  bndO (oNew 29 [(.int .i64 0), (.int .i64 0), (.str []), .nils, .nils] h6) fun v9 h7 =>
  bndO (oStore 5 v9 v35 h7) fun _u9 h9 =>
  Out.nor (T.set (some v9) (Pos.of 9) fr) h9
def Tryr3_7 (fr : F) (h : Hp) : Out :=
  gtO (T.get fr (Pos.of 9)) fun v9 => bndO (oLoadN 5 v9 h) fun v37 h0 =>
  bndO (TryF9 [v37, (.str [113, 117, 101, 114, 121, 83, 116, 97, 116, 101])] h0) fun v38 h1 =>
  bndO (oExtract 0 v38 h1) fun v39 h3 =>
  bndO (oExtract 1 v38 h3) fun v40 h4 =>
  Out.nor (T.set (some v39) (Pos.of 10) fr) h4
def Tryr3_8 (fr : F) (h : Hp) : Out :=
  Out.nor (T.set (some (.int .i64 0)) (Pos.of 12) fr) h
def Tryr3_9 (fr : F) (h : Hp) : Out :=
  gtO (T.get fr (Pos.of 12)) fun v12 => gtO (T.get fr (Pos.of 7)) fun v7 => bndO (oBin .lss .none v12 v7 h) fun v43 h2 =>
  Out.nor (T.set (some v43) (Pos.of 43) fr) h2
def Tryr3_11 (fr : F) (h : Hp) : Out :=
  gtO (T.get fr (Pos.of 6)) fun v6 => gtO (T.get fr (Pos.of 5)) fun v5 => bndO (TryF10 [(.str [99, 111, 108, 108, 97, 112, 115, 101, 84, 104, 114, 101, 97, 100, 115])] h) fun v48 h2 =>
  bndO (TryF11 [(.bool true)] h2) fun v49 h3 =>
  bndO (oBuildSlice 29 [(.int .i64 0), (.int .i64 0), (.str []), .nils, .nils, (.int .i64 0), (.int .i64 0), (.str []), .nils, .nils] 2 [(0, 5, v48), (5, 5, v49)] h3) fun v50 h4 =>
  bndO (TryF8 [v50] h4) fun v51 h5 =>
  bndO (TryF7m [v6, v5, (.str [69, 109, 97, 105, 108, 47, 113, 117, 101, 114, 121]), v51] h5) fun v52 h6 =>
  Out.nor fr h6
def Tryr3_10 (fr : F) (h : Hp) : Out :=
  gtO (T.get fr (Pos.of 12)) fun v12 => bndO (oBin .add .none v12 (.int .i64 1) h) fun v45 h1 =>
  Out.nor (T.set (some v45) (Pos.of 12) fr) h1
def Tryr3_12 (fr : F) (h : Hp) : Out :=
  bndO (TryF10 [(.str [115, 105, 110, 99, 101, 81, 117, 101, 114, 121, 83, 116, 97, 116, 101])] h) fun v53 h0 =>
  gtO (T.get fr (Pos.of 10)) fun v10 => bndO (TryF10 [v10] h0) fun v55 h2 =>
  bndO (oBuildSlice 29 [(.int .i64 0), (.int .i64 0), (.str []), .nils, .nils, (.int .i64 0), (.int .i64 0), (.str []), .nils, .nils] 2 [(0, 5, v53), (5, 5, v55)] h2) fun v56 h3 =>
  bndO (TryF8 [v56] h3) fun v57 h4 =>
  bndO (oNew 29 [(.int .i64 0), (.int .i64 0), (.str []), .nils, .nils] h4) fun v13 h5 =>
  bndO (oStore 5 v13 v57 h5) fun _u6 h6 =>
  Out.nor (T.set (some v13) (Pos.of 13) fr) h6
def Tryr3_13 (fr : F) (h : Hp) : Out :=
  gtO (T.get fr (Pos.of 1)) fun v1 => Out.nor (T.set (some v1) (Pos.of 58) fr) h
def Tryr3_14 (fr : F) (h : Hp) : Out :=
  bndO (TryF10 [(.str [115, 105, 110, 99, 101, 81, 117, 101, 114, 121, 83, 116, 97, 116, 101])] h) fun v59 h0 =>
  gtO (T.get fr (Pos.of 10)) fun v10 => bndO (TryF10 [v10] h0) fun v61 h2 =>
  bndO (TryF10 [(.str [102, 105, 108, 116, 101, 114])] h2) fun v62 h3 =>
  bndO (TryF8 [.nils] h3) fun v63 h4 =>
  bndO (oBuildSlice 29 [(.int .i64 0), (.int .i64 0), (.str []), .nils, .nils, (.int .i64 0), (.int .i64 0), (.str []), .nils, .nils, (.int .i64 0), (.int .i64 0), (.str []), .nils, .nils, (.int .i64 0), (.int .i64 0), (.str []), .nils, .nils] 4 [(0, 5, v59), (5, 5, v61), (10, 5, v62), (15, 5, v63)] h4) fun v64 h5 =>
  bndO (TryF8 [v64] h5) fun v65 h6 =>
  gtO (T.get fr (Pos.of 13)) fun v13 => bndO (oStore 5 v13 v65 h6) fun _u7 h7 =>
  Out.nor fr h7
def Tryr3_15 (fr : F) (h : Hp) : Out :=
  gtO (T.get fr (Pos.of 6)) fun v6 => gtO (T.get fr (Pos.of 5)) fun v5 => gtO (T.get fr (Pos.of 13)) fun v13 => bndO (oLoadN 5 v13 h) fun v69 h2 =>
  bndO (TryF7m [v6, v5, (.str [69, 109, 97, 105, 108, 47, 113, 117, 101, 114, 121, 67, 104, 97, 110, 103, 101, 115]), v69] h2) fun v70 h3 =>
  bndO (oExtract 0 v70 h3) fun v71 h5 =>
  bndO (oExtract 1 v70 h5) fun v72 h6 =>
  bndO (oNew 29 [(.int .i64 0), (.int .i64 0), (.str []), .nils, .nils] h6) fun v15 h7 =>
  bndO (oStore 5 v15 v72 h7) fun _u9 h9 =>
  Out.nor (T.set (some v71) (Pos.of 14) (T.set (some v15) (Pos.of 15) fr)) h9
def Tryr3_16 (fr : F) (h : Hp) : Out :=
  gtO (T.get fr (Pos.of 15)) fun v15 => bndO (oLoadN 5 v15 h) fun v74 h0 =>
  bndO (TryF9 [v74, (.str [116, 121, 112, 101])] h0) fun v75 h1 =>
  bndO (oExtract 0 v75 h1) fun v76 h3 =>
  bndO (oExtract 1 v75 h3) fun v77 h4 =>
  Out.nor (T.set (some v76) (Pos.of 16) fr) h4
def Tryr3_17 (fr : F) (h : Hp) : Out :=
  gtO (T.get fr (Pos.of 1)) fun v1 => ifB v1 (Out.nor (T.set (some (.bool true)) (Pos.of 82) fr) h) (gtO (T.get fr (Pos.of 7)) fun v7 => bndO (oBin .geq .none v7 (.int .i64 8) h) fun v81 h3 =>
  Out.nor (T.set (some v81) (Pos.of 82) fr) h3)
def Tryr3_18 (fr : F) (h : Hp) : Out :=
  gtO (T.get fr (Pos.of 14)) fun v14 => bndO (oBin .eql .none v14 (.str [101, 114, 114, 111, 114]) h) fun v84 h1 =>
  ifB v84 (gtO (T.get fr (Pos.of 16)) fun v16 => bndO (oBin .eql .none v16 (.str [99, 97, 110, 110, 111, 116, 67, 97, 108, 99, 117, 108, 97, 116, 101, 67, 104, 97, 110, 103, 101, 115]) h1) fun v87 h4 =>
  ifB v87 (bndO (TryF12c [] h4) fun v90 h7 =>
  Out.nor (T.set (some v90) (Pos.of 4) fr) h7) (Out.nor (T.set (some (.bool false)) (Pos.of 4) fr) h4)) (Out.nor (T.set (some (.bool false)) (Pos.of 4) fr) h1)
def Tryr3_19 (fr : F) (h : Hp) : Out :=
  gtO (T.get fr (Pos.of 10)) fun v10 => bndO (oBin .eql .none v10 (.str [49]) h) fun v93 h1 =>
  ifB v93 (gtO (T.get fr (Pos.of 14)) fun v14 => bndO (oBin .eql .none v14 (.str [69, 109, 97, 105, 108, 47, 113, 117, 101, 114, 121, 67, 104, 97, 110, 103, 101, 115]) h1) fun v96 h4 =>
  ifB v96 (gtO (T.get fr (Pos.of 15)) fun v15 => bndO (oLoadN 5 v15 h4) fun v99 h7 =>
  bndO (TryF13 [v99, (.str [114, 101, 109, 111, 118, 101, 100])] h7) fun v100 h8 =>
  bndO (oLenK 2 v100 h8) fun v101 h9 =>
  bndO (oBin .eql .none v101 (.int .i64 0) h9) fun v102 h10 =>
  ifB v102 (bndO (TryF12c [] h10) fun v105 h13 =>
  Out.nor (T.set (some v105) (Pos.of 4) fr) h13) (Out.nor (T.set (some (.bool false)) (Pos.of 4) fr) h10)) (Out.nor (T.set (some (.bool false)) (Pos.of 4) fr) h4)) (Out.nor (T.set (some (.bool false)) (Pos.of 4) fr) h1)
def Tryb3_9 : F → Hp → Out := (seqO (seqO Tryr3_9 (cndX (.tmp 43) Out.nor (Out.ex 0))) (seqO (blkO 1 Tryr3_11) Tryr3_10))
def Tryd3 : F → Hp → Out := (seqO Tryr3_0 (seqO Tryr3_1 (seqO Tryr3_2 (seqO (seqO Tryr3_3 (cndX (.tmp 25) (seqO Tryr3_4 Out.ret) Out.nor)) (seqO Tryr3_5 (seqO Tryr3_6 (seqO Tryr3_7 (seqO (seqO Tryr3_8 (blkO 0 (loopO Tryb3_9 lf))) (seqO Tryr3_12 (seqO (seqO Tryr3_13 (cndX (.tmp 58) Tryr3_14 Out.nor)) (seqO Tryr3_15 (seqO Tryr3_16 (seqO (seqO Tryr3_17 (cndX (.tmp 82) (seqO Tryr3_18 Out.ret) Out.nor)) (seqO Tryr3_19 Out.ret))))))))))))))
def Trye3 : FuncId → Option Fun := fun f => match Nat.beq f 5 with | true => some TryF5 | false => match Nat.beq f 6 with | true => some TryF6 | false => match Nat.beq f 8 with | true => some TryF8 | false => match Nat.beq f 7 with | true => some TryF7m | false => match Nat.beq f 9 with | true => some TryF9 | false => match Nat.beq f 10 with | true => some TryF10 | false => match Nat.beq f 11 with | true => some TryF11 | false => match Nat.beq f 12 with | true => some TryF12c | false => match Nat.beq f 13 with | true => some TryF13 | false => none
def Tryp3 : Plans := fun id => none
def TryF3 : Fun := funX Tryz.prog TryG Tryk3 Trye3 Tryp3 lf Tryz.f3
theorem TryD3 : denX Tryz.prog TryG Tryz.f3.ntmps Tryk3 Trye3 Tryp3 lf (codeOf Tryz.f3) = Tryd3 := by kernel_rfl
theorem TryF3_eq (x0 x1 : V) (h : Hp) : TryF3 [x0, x1] h = outR Tryz.prog [.tmp 4] (Tryd3 (T.set (some x1) (Pos.of 1) (T.set (some x0) (Pos.of 0) T.nil)) h) := funX_eq (by kernel_rfl) TryD3 (by kernel_rfl) h
theorem Tryc3 : CallOk Tryz.prog TryG 3 TryF3 := funX_ok Trymix (callsOk_cons Tryc5 (callsOk_cons Tryc6 (callsOk_cons Tryc8 (callsOk_cons Tryc7m (callsOk_cons Tryc9 (callsOk_cons Tryc10 (callsOk_cons Tryc11 (callsOk_cons Tryc12c (callsOk_cons Tryc13 callsOk_0))))))))) Tryz.func3 (by kernel_rfl)
end Go.Proofs.Jm
