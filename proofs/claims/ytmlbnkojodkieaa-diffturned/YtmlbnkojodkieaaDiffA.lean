/- Part of the value machine, or of a walk by it: lemmas that the claim's last text uses. No conditions. -/
import Derived.Test.YtmlbnkojodkieaaChecked
import Derived.KernelRfl
import Derived.Test.YtmlbnkojodkieaaVmC
set_option linter.unusedVariables false
set_option linter.unusedSimpArgs false
set_option linter.unnecessarySimpa false
noncomputable section
namespace Go.Proofs.Ytmlbnkojodkieaa
open Go Go.Proofs Go.Vm
set_option linter.unusedVariables false
set_option maxRecDepth 100000
theorem Trymix : Try.prog.follows .mixedOrders = true := Try.checked.mixed
/-! 16: pillarbox/diff.places -/
def Tryk16 : Nat → Bool := fun t => memN t [0, 2, 3, 4, 5, 6, 8, 10, 11, 12, 13, 23]
def Tryr16_0 (fr : F) (h : Hp) : Out :=
  Out.nor (T.set (some (.bool false)) (Pos.of 3) (T.set (some .nilm) (Pos.of 2) fr)) h
def Tryr16_1 (fr : F) (h : Hp) : Out :=
  bndO (oMakeMap h) fun v9 h0 =>
  Out.nor (T.set (some v9) (Pos.of 4) fr) h0
def Tryr16_2 (fr : F) (h : Hp) : Out :=
  gtO (T.get fr (Pos.of 0)) fun v0 => bndO (oLenK 2 v0 h) fun v11 h1 =>
  Out.nor (T.set (some (.int .i64 0)) (Pos.of 12) (T.set (some v11) (Pos.of 11) (T.set (some v0) (Pos.of 10) fr))) h1
def Tryr16_3 (fr : F) (h : Hp) : Out :=
  gtO (T.get fr (Pos.of 12)) fun v12 => gtO (T.get fr (Pos.of 11)) fun v11 => bndO (oBin .lss .none v12 v11 h) fun v13 h0 =>
  Out.nor (T.set (some v13) (Pos.of 13) fr) h0
def Tryr16_4 (fr : F) (h : Hp) : Out :=
  gtO (T.get fr (Pos.of 12)) fun v12 => gtO (T.get fr (Pos.of 10)) fun v10 => bndO (oIdxS 1 v10 v12 h) fun v15 h1 =>
  bndO (oLoad1 v15 h1) fun v16 h2 =>
  Out.nor (T.set (some v16) (Pos.of 6) (T.set (some v12) (Pos.of 5) fr)) h2
def Tryr16_5 (fr : F) (h : Hp) : Out :=
  gtO (T.get fr (Pos.of 4)) fun v4 => gtO (T.get fr (Pos.of 6)) fun v6 => bndO (oLookK (.int .i64) true (.int .i64 0) v4 v6 h) fun v20 h2 =>
  bndO (oExtract 0 v20 h2) fun v21 h4 =>
  bndO (oExtract 1 v20 h4) fun v22 h5 =>
  Out.nor (T.set (some v22) (Pos.of 8) fr) h5
def Tryr16_6 (fr : F) (h : Hp) : Out :=
  gtO (T.get fr (Pos.of 8)) fun v8 => Out.nor (T.set (some v8) (Pos.of 23) fr) h
def Tryr16_7 (fr : F) (h : Hp) : Out :=
  Out.nor (T.set (some (.bool false)) (Pos.of 3) (T.set (some .nilm) (Pos.of 2) fr)) h
def Tryr16_8 (fr : F) (h : Hp) : Out :=
  gtO (T.get fr (Pos.of 4)) fun v4 => gtO (T.get fr (Pos.of 6)) fun v6 => gtO (T.get fr (Pos.of 5)) fun v5 => bndO (oMapK (.int .i64) v4 v6 v5 h) fun _u3 h3 =>
  Out.nor fr h3
def Tryr16_9 (fr : F) (h : Hp) : Out :=
  gtO (T.get fr (Pos.of 12)) fun v12 => bndO (oBin .add .none v12 (.int .i64 1) h) fun v27 h0 =>
  Out.nor (T.set (some v27) (Pos.of 12) fr) h0
def Tryr16_10 (fr : F) (h : Hp) : Out :=
  gtO (T.get fr (Pos.of 4)) fun v4 => Out.nor (T.set (some (.bool true)) (Pos.of 3) (T.set (some v4) (Pos.of 2) fr)) h
def Tryb16_3 : F → Hp → Out := (seqO Tryr16_3 (seqO (cndX (.tmp 13) Out.nor (Out.ex 0)) (seqO (blkO 1 (seqO Tryr16_4 (seqO (seqO Tryr16_5 (seqO Tryr16_6 (cndX (.tmp 23) (seqO Tryr16_7 Out.ret) Out.nor))) Tryr16_8))) Tryr16_9)))
def Tryd16 : F → Hp → Out := (seqO Tryr16_0 (seqO Tryr16_1 (seqO (seqO Tryr16_2 (blkO 0 (loopO Tryb16_3 lf))) (seqO Tryr16_10 Out.ret))))
def Trye16 : FuncId → Option Fun := fun f => none
def Tryp16 : Plans := fun id => none
def TryF16 : Fun := funX Try.prog 0 Tryk16 Trye16 Tryp16 lf Try.f16
theorem TryD16 : denX Try.prog 0 Try.f16.ntmps Tryk16 Trye16 Tryp16 lf (codeOf Try.f16) = Tryd16 := by kernel_rfl
theorem TryF16_eq (x0 : V) (h : Hp) : TryF16 [x0] h = outR Try.prog [.tmp 2, .tmp 3] (Tryd16 (T.set (some x0) (Pos.of 0) T.nil) h) := funX_eq (by kernel_rfl) TryD16 (by kernel_rfl) h
theorem Tryc16 : CallOk Try.prog 0 16 TryF16 := funX_ok Trymix callsOk_0 Try.func16 (by kernel_rfl)

/-! 8: pillarbox/diff.Diff -/
def Tryk8 : Nat → Bool := fun t => memN t [0, 1, 4, 5, 7, 8, 9, 10, 11, 13, 14, 15, 16, 17, 33, 35, 36, 37, 38, 52, 61, 62, 63, 64, 71]
def Tryr8_0 (fr : F) (h : Hp) : Out :=
  Out.nor (T.set (some .nils) (Pos.of 5) (T.set (some .nils) (Pos.of 4) fr)) h
def Tryr8_1 (fr : F) (h : Hp) : Out :=
  gtO (T.get fr (Pos.of 0)) fun v0 => bndO (TryF16 [v0] h) fun v20 h1 =>
  bndO (oExtract 0 v20 h1) fun v21 h3 =>
  bndO (oExtract 1 v20 h3) fun v22 h4 =>
  Out.nor (T.set (some v22) (Pos.of 7) fr) h4
def Tryr8_2 (fr : F) (h : Hp) : Out :=
  gtO (T.get fr (Pos.of 1)) fun v1 => bndO (TryF16 [v1] h) fun v25 h1 =>
  bndO (oExtract 0 v25 h1) fun v26 h3 =>
  bndO (oExtract 1 v25 h3) fun v27 h4 =>
  Out.nor (T.set (some v27) (Pos.of 9) (T.set (some v26) (Pos.of 8) fr)) h4
def Tryr8_3 (fr : F) (h : Hp) : Out :=
  gtO (T.get fr (Pos.of 7)) fun v7 => bndO (oUn .not v7 h) fun v29 h1 =>
  ifB v29 (Out.nor (T.set (some (.bool true)) (Pos.of 33) fr) h1) (gtO (T.get fr (Pos.of 9)) fun v9 => bndO (oUn .not v9 h1) fun v32 h4 =>
  Out.nor (T.set (some v32) (Pos.of 33) fr) h4)
def Tryr8_4 (fr : F) (h : Hp) : Out :=
  Out.nor (T.set (some .nils) (Pos.of 5) (T.set (some .nils) (Pos.of 4) fr)) h
def Tryr8_5 (fr : F) (h : Hp) : Out :=
  bndO (oMakeMap h) fun v34 h0 =>
  Out.nor (T.set (some v34) (Pos.of 10) fr) h0
def Tryr8_6 (fr : F) (h : Hp) : Out :=
  Out.nor (T.set (some (.int .i64 (-1))) (Pos.of 11) fr) h
def Tryr8_7 (fr : F) (h : Hp) : Out :=
  gtO (T.get fr (Pos.of 0)) fun v0 => bndO (oLenK 2 v0 h) fun v36 h1 =>
  Out.nor (T.set (some (.int .i64 0)) (Pos.of 37) (T.set (some v36) (Pos.of 36) (T.set (some v0) (Pos.of 35) fr))) h1
def Tryr8_8 (fr : F) (h : Hp) : Out :=
  gtO (T.get fr (Pos.of 37)) fun v37 => gtO (T.get fr (Pos.of 36)) fun v36 => bndO (oBin .lss .none v37 v36 h) fun v38 h0 =>
  Out.nor (T.set (some v38) (Pos.of 38) fr) h0
def Tryr8_9 (fr : F) (h : Hp) : Out :=
  gtO (T.get fr (Pos.of 35)) fun v35 => gtO (T.get fr (Pos.of 37)) fun v37 => bndO (oIdxS 1 v35 v37 h) fun v39 h0 =>
  bndO (oLoad1 v39 h0) fun v40 h1 =>
  Out.nor (T.set (some v40) (Pos.of 13) fr) h1
def Tryr8_10 (fr : F) (h : Hp) : Out :=
  gtO (T.get fr (Pos.of 8)) fun v8 => gtO (T.get fr (Pos.of 13)) fun v13 => bndO (oLookK (.int .i64) true (.int .i64 0) v8 v13 h) fun v44 h2 =>
  bndO (oExtract 0 v44 h2) fun v45 h4 =>
  bndO (oExtract 1 v44 h4) fun v46 h5 =>
  Out.nor (T.set (some v46) (Pos.of 15) (T.set (some v45) (Pos.of 14) fr)) h5
def Tryr8_11 (fr : F) (h : Hp) : Out :=
  gtO (T.get fr (Pos.of 15)) fun v15 => ifB v15 (gtO (T.get fr (Pos.of 14)) fun v14 => gtO (T.get fr (Pos.of 11)) fun v11 => bndO (oBin .gtr .none v14 v11 h) fun v51 h4 =>
  Out.nor (T.set (some v51) (Pos.of 52) fr) h4) (Out.nor (T.set (some (.bool false)) (Pos.of 52) fr) h)
def Tryr8_12 (fr : F) (h : Hp) : Out :=
  gtO (T.get fr (Pos.of 10)) fun v10 => gtO (T.get fr (Pos.of 13)) fun v13 => gtO (T.get fr (Pos.of 14)) fun v14 => bndO (oMapK (.int .i64) v10 v13 (.bool true) h) fun _u3 h3 =>
  Out.nor (T.set (some v14) (Pos.of 11) fr) h3
def Tryr8_13 (fr : F) (h : Hp) : Out :=
  gtO (T.get fr (Pos.of 4)) fun v4 => gtO (T.get fr (Pos.of 13)) fun v13 => bndO (oBuildSlice [(.int .i64 0)] 1 [(0, 1, v13)] h) fun v58 h2 =>
  bndO (oAppend 1 8 v4 v58 h2) fun v59 h3 =>
  Out.nor (T.set (some v59) (Pos.of 4) fr) h3
def Tryr8_14 (fr : F) (h : Hp) : Out :=
  gtO (T.get fr (Pos.of 37)) fun v37 => bndO (oBin .add .none v37 (.int .i64 1) h) fun v60 h0 =>
  Out.nor (T.set (some v60) (Pos.of 37) fr) h0
def Tryr8_15 (fr : F) (h : Hp) : Out :=
  gtO (T.get fr (Pos.of 1)) fun v1 => bndO (oLenK 2 v1 h) fun v62 h1 =>
  Out.nor (T.set (some (.int .i64 0)) (Pos.of 63) (T.set (some v62) (Pos.of 62) (T.set (some v1) (Pos.of 61) fr))) h1
def Tryr8_16 (fr : F) (h : Hp) : Out :=
  gtO (T.get fr (Pos.of 63)) fun v63 => gtO (T.get fr (Pos.of 62)) fun v62 => bndO (oBin .lss .none v63 v62 h) fun v64 h0 =>
  Out.nor (T.set (some v64) (Pos.of 64) fr) h0
def Tryr8_17 (fr : F) (h : Hp) : Out :=
  gtO (T.get fr (Pos.of 63)) fun v63 => gtO (T.get fr (Pos.of 61)) fun v61 => bndO (oIdxS 1 v61 v63 h) fun v66 h1 =>
  bndO (oLoad1 v66 h1) fun v67 h2 =>
  Out.nor (T.set (some v67) (Pos.of 17) (T.set (some v63) (Pos.of 16) fr)) h2
def Tryr8_18 (fr : F) (h : Hp) : Out :=
  gtO (T.get fr (Pos.of 10)) fun v10 => gtO (T.get fr (Pos.of 17)) fun v17 => bndO (oLookK (.int .i64) false (.bool false) v10 v17 h) fun v70 h2 =>
  bndO (oUn .not v70 h2) fun v71 h3 =>
  Out.nor (T.set (some v71) (Pos.of 71) fr) h3
def Tryr8_19 (fr : F) (h : Hp) : Out :=
  gtO (T.get fr (Pos.of 5)) fun v5 => gtO (T.get fr (Pos.of 17)) fun v17 => gtO (T.get fr (Pos.of 16)) fun v16 => bndO (oBuild [(.int .i64 0), (.int .i64 0)] [(0, 1, v17), (1, 1, v16)] h) fun v75 h3 =>
  bndO (oBuildSlice [(.int .i64 0), (.int .i64 0)] 1 [(0, 2, v75)] h3) fun v76 h4 =>
  bndO (oAppend 2 16 v5 v76 h4) fun v77 h5 =>
  Out.nor (T.set (some v77) (Pos.of 5) fr) h5
def Tryr8_20 (fr : F) (h : Hp) : Out :=
  gtO (T.get fr (Pos.of 63)) fun v63 => bndO (oBin .add .none v63 (.int .i64 1) h) fun v78 h0 =>
  Out.nor (T.set (some v78) (Pos.of 63) fr) h0
def Tryr8_21 (fr : F) (h : Hp) : Out :=
  gtO (T.get fr (Pos.of 4)) fun v4 => gtO (T.get fr (Pos.of 5)) fun v5 => Out.nor (T.set (some v5) (Pos.of 5) (T.set (some v4) (Pos.of 4) fr)) h
def Tryb8_8 : F → Hp → Out := (seqO Tryr8_8 (seqO (cndX (.tmp 38) Out.nor (Out.ex 0)) (seqO (blkO 1 (seqO Tryr8_9 (seqO Tryr8_10 (seqO Tryr8_11 (cndX (.tmp 52) Tryr8_12 Tryr8_13))))) Tryr8_14)))
def Tryb8_16 : F → Hp → Out := (seqO Tryr8_16 (seqO (cndX (.tmp 64) Out.nor (Out.ex 2)) (seqO (blkO 3 (seqO Tryr8_17 (seqO Tryr8_18 (cndX (.tmp 71) Tryr8_19 Out.nor)))) Tryr8_20)))
def Tryd8 : F → Hp → Out := (seqO Tryr8_0 (seqO Tryr8_1 (seqO Tryr8_2 (seqO (seqO Tryr8_3 (cndX (.tmp 33) (seqO Tryr8_4 Out.ret) Out.nor)) (seqO Tryr8_5 (seqO Tryr8_6 (seqO (seqO Tryr8_7 (blkO 0 (loopO Tryb8_8 lf))) (seqO (seqO Tryr8_15 (blkO 2 (loopO Tryb8_16 lf))) (seqO Tryr8_21 Out.ret)))))))))
def Trye8 : FuncId → Option Fun := fun f => match Nat.beq f 16 with | true => some TryF16 | false => none
def Tryp8 : Plans := fun id => none
def TryF8 : Fun := funX Try.prog 0 Tryk8 Trye8 Tryp8 lf Try.f8
theorem TryD8 : denX Try.prog 0 Try.f8.ntmps Tryk8 Trye8 Tryp8 lf (codeOf Try.f8) = Tryd8 := by kernel_rfl
theorem TryF8_eq (x0 x1 : V) (h : Hp) : TryF8 [x0, x1] h = outR Try.prog [.tmp 4, .tmp 5] (Tryd8 (T.set (some x1) (Pos.of 1) (T.set (some x0) (Pos.of 0) T.nil)) h) := funX_eq (by kernel_rfl) TryD8 (by kernel_rfl) h
theorem Tryc8 : CallOk Try.prog 0 8 TryF8 := funX_ok Trymix (callsOk_cons Tryc16 callsOk_0) Try.func8 (by kernel_rfl)

/-! 9: pillarbox/pillarboxref17.Ints -/
def Tryk9 : Nat → Bool := fun t => memN t [0, 1, 4, 5, 10, 14, 25]
def Tryr9_0 (fr : F) (h : Hp) : Out :=
  Out.nor (T.set (some (.bool false)) (Pos.of 4) fr) h
def Tryr9_1 (fr : F) (h : Hp) : Out :=
  gtO (T.get fr (Pos.of 0)) fun v0 => bndO (oLenK 2 v0 h) fun v7 h1 =>
  gtO (T.get fr (Pos.of 1)) fun v1 => bndO (oLenK 2 v1 h1) fun v9 h3 =>
  bndO (oBin .neq .none v7 v9 h3) fun v10 h4 =>
  Out.nor (T.set (some v10) (Pos.of 10) fr) h4
def Tryr9_2 (fr : F) (h : Hp) : Out :=
  Out.nor (T.set (some (.bool false)) (Pos.of 4) fr) h
def Tryr9_3 (fr : F) (h : Hp) : Out :=
  Out.nor (T.set (some (.int .i64 0)) (Pos.of 5) fr) h
def Tryr9_4 (fr : F) (h : Hp) : Out :=
  gtO (T.get fr (Pos.of 5)) fun v5 => gtO (T.get fr (Pos.of 0)) fun v0 => bndO (oLenK 2 v0 h) fun v13 h2 =>
  bndO (oBin .lss .none v5 v13 h2) fun v14 h3 =>
  Out.nor (T.set (some v14) (Pos.of 14) fr) h3
def Tryr9_6 (fr : F) (h : Hp) : Out :=
  gtO (T.get fr (Pos.of 0)) fun w0_0 => gtO (T.get fr (Pos.of 5)) fun w1_5 => bndO (oIdxS 1 w0_0 w1_5 (bumpH 0 h)) fun v19 _ =>
  bndO (oLoad1 v19 (bumpH 0 h)) fun v20 _ =>
  gtO (T.get fr (Pos.of 1)) fun w4_1 => gtO (T.get fr (Pos.of 5)) fun w5_5 => bndO (oIdxS 1 w4_1 w5_5 (bumpH 0 h)) fun v23 _ =>
  bndO (oLoad1 v23 (bumpH 0 h)) fun v24 _ =>
  bndO (oBin .neq .none v20 v24 (bumpH 0 h)) fun v25 _ =>
  Out.nor (T.set (some v25) (Pos.of 25) fr) (bumpH 0 h)
def Tryr9_7 (fr : F) (h : Hp) : Out :=
  Out.nor (T.set (some (.bool false)) (Pos.of 4) fr) h
def Tryr9_5 (fr : F) (h : Hp) : Out :=
  gtO (T.get fr (Pos.of 5)) fun v5 => bndO (oBin .add .none v5 (.int .i64 1) h) fun v16 h1 =>
  Out.nor (T.set (some v16) (Pos.of 5) fr) h1
def Tryr9_8 (fr : F) (h : Hp) : Out :=
  Out.nor (T.set (some (.bool true)) (Pos.of 4) fr) h
def Tryb9_4 : F → Hp → Out := (seqO (seqO Tryr9_4 (cndX (.tmp 14) Out.nor (Out.ex 0))) (seqO (blkO 1 (seqO Tryr9_6 (cndX (.tmp 25) (seqO Tryr9_7 Out.ret) Out.nor))) Tryr9_5))
def Tryd9 : F → Hp → Out := (seqO Tryr9_0 (seqO (seqO Tryr9_1 (cndX (.tmp 10) (seqO Tryr9_2 Out.ret) Out.nor)) (seqO (seqO Tryr9_3 (blkO 0 (loopO Tryb9_4 lf))) (seqO Tryr9_8 Out.ret))))
def Trye9 : FuncId → Option Fun := fun f => none
def Tryp9 : Plans := fun id => match Nat.beq id 6 with | true => some ([0, 0, 3, 7, 0, 0, 48, 112, 255], [(0, .pure), (1, .pure), (2, .pure), (3, .read 0), (4, .pure), (5, .pure), (6, .pure), (7, .read 0), (8, .pure)]) | false => none
def TryF9 : Fun := funX Try.prog 0 Tryk9 Trye9 Tryp9 lf Try.f9
theorem TryD9 : denX Try.prog 0 Try.f9.ntmps Tryk9 Trye9 Tryp9 lf (codeOf Try.f9) = Tryd9 := by kernel_rfl
theorem TryF9_eq (x0 x1 : V) (h : Hp) : TryF9 [x0, x1] h = outR Try.prog [.tmp 4] (Tryd9 (T.set (some x1) (Pos.of 1) (T.set (some x0) (Pos.of 0) T.nil)) h) := funX_eq (by kernel_rfl) TryD9 (by kernel_rfl) h
theorem Tryc9 : CallOk Try.prog 0 9 TryF9 := funX_ok Trymix callsOk_0 Try.func9 (by kernel_rfl)

/-! 10: pillarbox/pillarboxlaw20.awake -/
def Tryk10 : Nat → Bool := fun t => memN t [0, 1, 2]
def Tryr10_0 (fr : F) (h : Hp) : Out :=
  Out.nor (T.set (some (.bool false)) (Pos.of 0) fr) h
def Tryr10_1 (fr : F) (h : Hp) : Out :=
  bndO (oBuildSlice [(.int .i64 0), (.int .i64 0)] 2 [(0, 1, (.int .i64 1)), (1, 1, (.int .i64 2))] h) fun v4 h0 =>
  bndO (oBuildSlice [(.int .i64 0), (.int .i64 0)] 2 [(0, 1, (.int .i64 2)), (1, 1, (.int .i64 1))] h0) fun v5 h1 =>
  bndO (TryF8 [v4, v5] h1) fun v6 h2 =>
  bndO (oExtract 0 v6 h2) fun v7 h4 =>
  bndO (oExtract 1 v6 h4) fun v8 h5 =>
  Out.nor (T.set (some v8) (Pos.of 2) (T.set (some v7) (Pos.of 1) fr)) h5
def Tryr10_2 (fr : F) (h : Hp) : Out :=
  gtO (T.get fr (Pos.of 1)) fun v1 => bndO (oLenK 2 v1 h) fun v10 h1 =>
  bndO (oBin .eql .none v10 (.int .i64 1) h1) fun v11 h2 =>
  ifB v11 (bndO (oIdxS 1 v1 (.int .i64 0) h2) fun v14 h5 =>
  bndO (oLoad1 v14 h5) fun v15 h6 =>
  bndO (oBin .eql .none v15 (.int .i64 2) h6) fun v16 h7 =>
  ifB v16 (gtO (T.get fr (Pos.of 2)) fun v2 => bndO (oLenK 2 v2 h7) fun v20 h11 =>
  bndO (oBin .eql .none v20 (.int .i64 1) h11) fun v21 h12 =>
  ifB v21 (bndO (oIdxS 2 v2 (.int .i64 0) h12) fun v25 h16 =>
  bndO (oLoadN 2 v25 h16) fun v26 h17 =>
  bndO (oBuild [(.int .i64 0), (.int .i64 0)] [(0, 1, (.int .i64 2)), (1, 1, (.int .i64 0))] h17) fun v27 h18 =>
  bndO (oBinAgg .eql [((.int .i64), 0), ((.int .i64), 1)] v26 v27 h18) fun v28 h19 =>
  Out.nor (T.set (some v28) (Pos.of 0) fr) h19) (Out.nor (T.set (some (.bool false)) (Pos.of 0) fr) h12)) (Out.nor (T.set (some (.bool false)) (Pos.of 0) fr) h7)) (Out.nor (T.set (some (.bool false)) (Pos.of 0) fr) h2)
def Tryd10 : F → Hp → Out := (seqO Tryr10_0 (seqO Tryr10_1 (seqO Tryr10_2 Out.ret)))
def Trye10 : FuncId → Option Fun := fun f => match Nat.beq f 8 with | true => some TryF8 | false => none
def Tryp10 : Plans := fun id => none
def TryF10 : Fun := funX Try.prog 0 Tryk10 Trye10 Tryp10 lf Try.f10
theorem TryD10 : denX Try.prog 0 Try.f10.ntmps Tryk10 Trye10 Tryp10 lf (codeOf Try.f10) = Tryd10 := by kernel_rfl
theorem TryF10_eq  (h : Hp) : TryF10 [] h = outR Try.prog [.tmp 0] (Tryd10 T.nil h) := funX_eq (by kernel_rfl) TryD10 (by kernel_rfl) h
theorem Tryc10 : CallOk Try.prog 0 10 TryF10 := funX_ok Trymix (callsOk_cons Tryc8 callsOk_0) Try.func10 (by kernel_rfl)

/-! 12: pillarbox/pillarboxref17.Items -/
def Tryk12 : Nat → Bool := fun t => memN t [0, 1, 4, 5, 10, 14, 25]
def Tryr12_0 (fr : F) (h : Hp) : Out :=
  Out.nor (T.set (some (.bool false)) (Pos.of 4) fr) h
def Tryr12_1 (fr : F) (h : Hp) : Out :=
  gtO (T.get fr (Pos.of 0)) fun v0 => bndO (oLenK 2 v0 h) fun v7 h1 =>
  gtO (T.get fr (Pos.of 1)) fun v1 => bndO (oLenK 2 v1 h1) fun v9 h3 =>
  bndO (oBin .neq .none v7 v9 h3) fun v10 h4 =>
  Out.nor (T.set (some v10) (Pos.of 10) fr) h4
def Tryr12_2 (fr : F) (h : Hp) : Out :=
  Out.nor (T.set (some (.bool false)) (Pos.of 4) fr) h
def Tryr12_3 (fr : F) (h : Hp) : Out :=
  Out.nor (T.set (some (.int .i64 0)) (Pos.of 5) fr) h
def Tryr12_4 (fr : F) (h : Hp) : Out :=
  gtO (T.get fr (Pos.of 5)) fun v5 => gtO (T.get fr (Pos.of 0)) fun v0 => bndO (oLenK 2 v0 h) fun v13 h2 =>
  bndO (oBin .lss .none v5 v13 h2) fun v14 h3 =>
  Out.nor (T.set (some v14) (Pos.of 14) fr) h3
def Tryr12_6 (fr : F) (h : Hp) : Out :=
  gtO (T.get fr (Pos.of 0)) fun w0_0 => gtO (T.get fr (Pos.of 5)) fun w1_5 => bndO (oIdxS 2 w0_0 w1_5 (bumpH 0 h)) fun v19 _ =>
  bndO (oLoadN 2 v19 (bumpH 0 h)) fun v20 _ =>
  gtO (T.get fr (Pos.of 1)) fun w4_1 => gtO (T.get fr (Pos.of 5)) fun w5_5 => bndO (oIdxS 2 w4_1 w5_5 (bumpH 0 h)) fun v23 _ =>
  bndO (oLoadN 2 v23 (bumpH 0 h)) fun v24 _ =>
  bndO (oBinAgg .neq [((.int .i64), 0), ((.int .i64), 1)] v20 v24 (bumpH 0 h)) fun v25 _ =>
  Out.nor (T.set (some v25) (Pos.of 25) fr) (bumpH 0 h)
def Tryr12_7 (fr : F) (h : Hp) : Out :=
  Out.nor (T.set (some (.bool false)) (Pos.of 4) fr) h
def Tryr12_5 (fr : F) (h : Hp) : Out :=
  gtO (T.get fr (Pos.of 5)) fun v5 => bndO (oBin .add .none v5 (.int .i64 1) h) fun v16 h1 =>
  Out.nor (T.set (some v16) (Pos.of 5) fr) h1
def Tryr12_8 (fr : F) (h : Hp) : Out :=
  Out.nor (T.set (some (.bool true)) (Pos.of 4) fr) h
def Tryb12_4 : F → Hp → Out := (seqO (seqO Tryr12_4 (cndX (.tmp 14) Out.nor (Out.ex 0))) (seqO (blkO 1 (seqO Tryr12_6 (cndX (.tmp 25) (seqO Tryr12_7 Out.ret) Out.nor))) Tryr12_5))
def Tryd12 : F → Hp → Out := (seqO Tryr12_0 (seqO (seqO Tryr12_1 (cndX (.tmp 10) (seqO Tryr12_2 Out.ret) Out.nor)) (seqO (seqO Tryr12_3 (blkO 0 (loopO Tryb12_4 lf))) (seqO Tryr12_8 Out.ret))))
def Trye12 : FuncId → Option Fun := fun f => none
def Tryp12 : Plans := fun id => match Nat.beq id 6 with | true => some ([0, 0, 3, 7, 0, 0, 48, 112, 255], [(0, .pure), (1, .pure), (2, .pure), (3, .read 0), (4, .pure), (5, .pure), (6, .pure), (7, .read 0), (8, .pure)]) | false => none
def TryF12 : Fun := funX Try.prog 0 Tryk12 Trye12 Tryp12 lf Try.f12
theorem TryD12 : denX Try.prog 0 Try.f12.ntmps Tryk12 Trye12 Tryp12 lf (codeOf Try.f12) = Tryd12 := by kernel_rfl
theorem TryF12_eq (x0 x1 : V) (h : Hp) : TryF12 [x0, x1] h = outR Try.prog [.tmp 4] (Tryd12 (T.set (some x1) (Pos.of 1) (T.set (some x0) (Pos.of 0) T.nil)) h) := funX_eq (by kernel_rfl) TryD12 (by kernel_rfl) h
theorem Tryc12 : CallOk Try.prog 0 12 TryF12 := funX_ok Trymix callsOk_0 Try.func12 (by kernel_rfl)

/-! 15: pillarbox/pillarboxlaw20.once -/
def Tryk15 : Nat → Bool := fun t => memN t [0, 2, 3, 4, 5, 9, 18]
def Tryr15_0 (fr : F) (h : Hp) : Out :=
  Out.nor (T.set (some .nils) (Pos.of 2) fr) h
def Tryr15_1 (fr : F) (h : Hp) : Out :=
  Out.nor (T.set (some .nils) (Pos.of 3) fr) h
def Tryr15_2 (fr : F) (h : Hp) : Out :=
  bndO (oNew [(.bool false), (.bool false), (.bool false), (.bool false), (.bool false), (.bool false), (.bool false), (.bool false), (.bool false), (.bool false), (.bool false), (.bool false), (.bool false), (.bool false), (.bool false), (.bool false), (.bool false), (.bool false), (.bool false), (.bool false), (.bool false), (.bool false), (.bool false), (.bool false), (.bool false), (.bool false), (.bool false), (.bool false), (.bool false), (.bool false), (.bool false), (.bool false), (.bool false), (.bool false), (.bool false), (.bool false), (.bool false), (.bool false), (.bool false), (.bool false), (.bool false), (.bool false), (.bool false), (.bool false), (.bool false), (.bool false), (.bool false), (.bool false), (.bool false), (.bool false), (.bool false), (.bool false), (.bool false), (.bool false), (.bool false), (.bool false), (.bool false), (.bool false), (.bool false), (.bool false), (.bool false), (.bool false), (.bool false), (.bool false), (.bool false), (.bool false), (.bool false), (.bool false), (.bool false), (.bool false), (.bool false), (.bool false), (.bool false), (.bool false), (.bool false), (.bool false), (.bool false), (.bool false), (.bool false), (.bool false), (.bool false), (.bool false), (.bool false), (.bool false), (.bool false), (.bool false), (.bool false), (.bool false), (.bool false), (.bool false), (.bool false), (.bool false), (.bool false), (.bool false), (.bool false), (.bool false), (.bool false), (.bool false), (.bool false), (.bool false), (.bool false), (.bool false), (.bool false), (.bool false), (.bool false), (.bool false), (.bool false), (.bool false), (.bool false), (.bool false), (.bool false), (.bool false), (.bool false), (.bool false), (.bool false), (.bool false), (.bool false), (.bool false), (.bool false), (.bool false), (.bool false), (.bool false), (.bool false), (.bool false), (.bool false), (.bool false), (.bool false), (.bool false), (.bool false), (.bool false), (.bool false), (.bool false), (.bool false), (.bool false), (.bool false), (.bool false), (.bool false), (.bool false), (.bool false), (.bool false), (.bool false), (.bool false), (.bool false), (.bool false), (.bool false), (.bool false), (.bool false), (.bool false), (.bool false), (.bool false), (.bool false), (.bool false), (.bool false), (.bool false), (.bool false), (.bool false), (.bool false), (.bool false), (.bool false), (.bool false), (.bool false), (.bool false), (.bool false), (.bool false), (.bool false), (.bool false), (.bool false), (.bool false), (.bool false), (.bool false), (.bool false), (.bool false), (.bool false), (.bool false), (.bool false), (.bool false), (.bool false), (.bool false), (.bool false), (.bool false), (.bool false), (.bool false), (.bool false), (.bool false), (.bool false), (.bool false), (.bool false), (.bool false), (.bool false), (.bool false), (.bool false), (.bool false), (.bool false), (.bool false), (.bool false), (.bool false), (.bool false), (.bool false), (.bool false), (.bool false), (.bool false), (.bool false), (.bool false), (.bool false), (.bool false), (.bool false), (.bool false), (.bool false), (.bool false), (.bool false), (.bool false), (.bool false), (.bool false), (.bool false), (.bool false), (.bool false), (.bool false), (.bool false), (.bool false), (.bool false), (.bool false), (.bool false), (.bool false), (.bool false), (.bool false), (.bool false), (.bool false), (.bool false), (.bool false), (.bool false), (.bool false), (.bool false), (.bool false), (.bool false), (.bool false), (.bool false), (.bool false), (.bool false), (.bool false), (.bool false), (.bool false), (.bool false), (.bool false), (.bool false), (.bool false), (.bool false), (.bool false), (.bool false), (.bool false), (.bool false), (.bool false), (.bool false), (.bool false), (.bool false), (.bool false), (.bool false)] h) fun v4 h0 =>
  Out.nor (T.set (some v4) (Pos.of 4) fr) h0
def Tryr15_3 (fr : F) (h : Hp) : Out :=
  Out.nor (T.set (some (.int .i64 0)) (Pos.of 5) fr) h
def Tryr15_4 (fr : F) (h : Hp) : Out :=
  gtO (T.get fr (Pos.of 5)) fun v5 => gtO (T.get fr (Pos.of 0)) fun v0 => bndO (oLenK 2 v0 h) fun v8 h2 =>
  bndO (oBin .lss .none v5 v8 h2) fun v9 h3 =>
  Out.nor (T.set (some v9) (Pos.of 9) fr) h3
def Tryr15_6 (fr : F) (h : Hp) : Out :=
  gtO (T.get fr (Pos.of 0)) fun v0 => gtO (T.get fr (Pos.of 5)) fun v5 => bndO (oIdxS 1 v0 v5 h) fun v14 h2 =>
  bndO (oLoad1 v14 h2) fun v15 h3 =>
  gtO (T.get fr (Pos.of 4)) fun v4 => bndO (oIdxA 256 1 v4 v15 h3) fun v16 h4 =>
  bndO (oLoad1 v16 h4) fun v17 h5 =>
  bndO (oUn .not v17 h5) fun v18 h6 =>
  Out.nor (T.set (some v18) (Pos.of 18) fr) h6
def Tryr15_7 (fr : F) (h : Hp) : Out :=
  gtO (T.get fr (Pos.of 3)) fun v3 => gtO (T.get fr (Pos.of 0)) fun v0 => gtO (T.get fr (Pos.of 5)) fun v5 => bndO (oIdxS 1 v0 v5 h) fun v22 h3 =>
  bndO (oLoad1 v22 h3) fun v23 h4 =>
  bndO (oConvInt .i64 v23 h4) fun v24 h5 =>
  bndO (oBuildSlice [(.int .i64 0)] 1 [(0, 1, v24)] h5) fun v25 h6 =>
  bndO (oAppend 1 8 v3 v25 h6) fun v26 h7 =>
  Out.nor (T.set (some v26) (Pos.of 3) fr) h7
def Tryr15_8 (fr : F) (h : Hp) : Out :=
  gtO (T.get fr (Pos.of 0)) fun v0 => gtO (T.get fr (Pos.of 5)) fun v5 => bndO (oIdxS 1 v0 v5 h) fun v29 h2 =>
  bndO (oLoad1 v29 h2) fun v30 h3 =>
  gtO (T.get fr (Pos.of 4)) fun v4 => bndO (oIdxA 256 1 v4 v30 h3) fun v31 h4 =>
  bndO (oStore 1 v31 (.bool true) h4) fun _u5 h5 =>
  Out.nor fr h5
def Tryr15_5 (fr : F) (h : Hp) : Out :=
  gtO (T.get fr (Pos.of 5)) fun v5 => bndO (oBin .add .none v5 (.int .i64 1) h) fun v11 h1 =>
  Out.nor (T.set (some v11) (Pos.of 5) fr) h1
def Tryr15_9 (fr : F) (h : Hp) : Out :=
  gtO (T.get fr (Pos.of 3)) fun v3 => Out.nor (T.set (some v3) (Pos.of 2) fr) h
def Tryb15_4 : F → Hp → Out := (seqO (seqO Tryr15_4 (cndX (.tmp 9) Out.nor (Out.ex 0))) (seqO (blkO 1 (seqO (seqO Tryr15_6 (cndX (.tmp 18) Tryr15_7 Out.nor)) Tryr15_8)) Tryr15_5))
def Tryd15 : F → Hp → Out := (seqO Tryr15_0 (seqO Tryr15_1 (seqO Tryr15_2 (seqO (seqO Tryr15_3 (blkO 0 (loopO Tryb15_4 lf))) (seqO Tryr15_9 Out.ret)))))
def Trye15 : FuncId → Option Fun := fun f => none
def Tryp15 : Plans := fun id => none
def TryF15 : Fun := funX Try.prog 0 Tryk15 Trye15 Tryp15 lf Try.f15
theorem TryD15 : denX Try.prog 0 Try.f15.ntmps Tryk15 Trye15 Tryp15 lf (codeOf Try.f15) = Tryd15 := by kernel_rfl
theorem TryF15_eq (x0 : V) (h : Hp) : TryF15 [x0] h = outR Try.prog [.tmp 2] (Tryd15 (T.set (some x0) (Pos.of 0) T.nil) h) := funX_eq (by kernel_rfl) TryD15 (by kernel_rfl) h
theorem Tryc15 : CallOk Try.prog 0 15 TryF15 := funX_ok Trymix callsOk_0 Try.func15 (by kernel_rfl)

/-! 18: pillarbox/pillarboxref17.place -/
def Tryk18 : Nat → Bool := fun t => memN t [0, 1, 4, 5, 9, 17]
def Tryr18_0 (fr : F) (h : Hp) : Out :=
  Out.nor (T.set (some (.int .i64 0)) (Pos.of 4) fr) h
def Tryr18_1 (fr : F) (h : Hp) : Out :=
  Out.nor (T.set (some (.int .i64 0)) (Pos.of 5) fr) h
def Tryr18_2 (fr : F) (h : Hp) : Out :=
  gtO (T.get fr (Pos.of 5)) fun v5 => gtO (T.get fr (Pos.of 0)) fun v0 => bndO (oLenK 2 v0 h) fun v8 h2 =>
  bndO (oBin .lss .none v5 v8 h2) fun v9 h3 =>
  Out.nor (T.set (some v9) (Pos.of 9) fr) h3
def Tryr18_4 (fr : F) (h : Hp) : Out :=
  gtO (T.get fr (Pos.of 0)) fun v0 => gtO (T.get fr (Pos.of 5)) fun v5 => bndO (oIdxS 1 v0 v5 h) fun v14 h2 =>
  bndO (oLoad1 v14 h2) fun v15 h3 =>
  gtO (T.get fr (Pos.of 1)) fun v1 => bndO (oBin .eql .none v15 v1 h3) fun v17 h5 =>
  Out.nor (T.set (some v17) (Pos.of 17) fr) h5
def Tryr18_5 (fr : F) (h : Hp) : Out :=
  gtO (T.get fr (Pos.of 5)) fun v5 => Out.nor (T.set (some v5) (Pos.of 4) fr) h
def Tryr18_3 (fr : F) (h : Hp) : Out :=
  gtO (T.get fr (Pos.of 5)) fun v5 => bndO (oBin .add .none v5 (.int .i64 1) h) fun v11 h1 =>
  Out.nor (T.set (some v11) (Pos.of 5) fr) h1
def Tryr18_6 (fr : F) (h : Hp) : Out :=
  Out.nor (T.set (some (.int .i64 (-1))) (Pos.of 4) fr) h
def Tryb18_2 : F → Hp → Out := (seqO (seqO Tryr18_2 (cndX (.tmp 9) Out.nor (Out.ex 0))) (seqO (blkO 1 (seqO Tryr18_4 (cndX (.tmp 17) (seqO Tryr18_5 Out.ret) Out.nor))) Tryr18_3))
def Tryd18 : F → Hp → Out := (seqO Tryr18_0 (seqO (seqO Tryr18_1 (blkO 0 (loopO Tryb18_2 lf))) (seqO Tryr18_6 Out.ret)))
def Trye18 : FuncId → Option Fun := fun f => none
def Tryp18 : Plans := fun id => none
def TryF18 : Fun := funX Try.prog 0 Tryk18 Trye18 Tryp18 lf Try.f18
theorem TryD18 : denX Try.prog 0 Try.f18.ntmps Tryk18 Trye18 Tryp18 lf (codeOf Try.f18) = Tryd18 := by kernel_rfl
theorem TryF18_eq (x0 x1 : V) (h : Hp) : TryF18 [x0, x1] h = outR Try.prog [.tmp 4] (Tryd18 (T.set (some x1) (Pos.of 1) (T.set (some x0) (Pos.of 0) T.nil)) h) := funX_eq (by kernel_rfl) TryD18 (by kernel_rfl) h
theorem Tryc18 : CallOk Try.prog 0 18 TryF18 := funX_ok Trymix callsOk_0 Try.func18 (by kernel_rfl)

/-! 17: pillarbox/pillarboxref17.single -/
def Tryk17 : Nat → Bool := fun t => memN t [0, 2, 3, 7, 17]
def Tryr17_0 (fr : F) (h : Hp) : Out :=
  Out.nor (T.set (some (.bool false)) (Pos.of 2) fr) h
def Tryr17_1 (fr : F) (h : Hp) : Out :=
  Out.nor (T.set (some (.int .i64 0)) (Pos.of 3) fr) h
def Tryr17_2 (fr : F) (h : Hp) : Out :=
  gtO (T.get fr (Pos.of 3)) fun v3 => gtO (T.get fr (Pos.of 0)) fun v0 => bndO (oLenK 2 v0 h) fun v6 h2 =>
  bndO (oBin .lss .none v3 v6 h2) fun v7 h3 =>
  Out.nor (T.set (some v7) (Pos.of 7) fr) h3
def Tryr17_4 (fr : F) (h : Hp) : Out :=
  gtO (T.get fr (Pos.of 0)) fun v0 => gtO (T.get fr (Pos.of 3)) fun v3 => bndO (oIdxS 1 v0 v3 h) fun v13 h3 =>
  bndO (oLoad1 v13 h3) fun v14 h4 =>
  bndO (TryF18 [v0, v14] h4) fun v15 h5 =>
  bndO (oBin .neq .none v15 v3 h5) fun v17 h7 =>
  Out.nor (T.set (some v17) (Pos.of 17) fr) h7
def Tryr17_5 (fr : F) (h : Hp) : Out :=
  Out.nor (T.set (some (.bool false)) (Pos.of 2) fr) h
def Tryr17_3 (fr : F) (h : Hp) : Out :=
  gtO (T.get fr (Pos.of 3)) fun v3 => bndO (oBin .add .none v3 (.int .i64 1) h) fun v9 h1 =>
  Out.nor (T.set (some v9) (Pos.of 3) fr) h1
def Tryr17_6 (fr : F) (h : Hp) : Out :=
  Out.nor (T.set (some (.bool true)) (Pos.of 2) fr) h
def Tryb17_2 : F → Hp → Out := (seqO (seqO Tryr17_2 (cndX (.tmp 7) Out.nor (Out.ex 0))) (seqO (blkO 1 (seqO Tryr17_4 (cndX (.tmp 17) (seqO Tryr17_5 Out.ret) Out.nor))) Tryr17_3))
def Tryd17 : F → Hp → Out := (seqO Tryr17_0 (seqO (seqO Tryr17_1 (blkO 0 (loopO Tryb17_2 lf))) (seqO Tryr17_6 Out.ret)))
def Trye17 : FuncId → Option Fun := fun f => match Nat.beq f 18 with | true => some TryF18 | false => none
def Tryp17 : Plans := fun id => none
def TryF17 : Fun := funX Try.prog 0 Tryk17 Trye17 Tryp17 lf Try.f17
theorem TryD17 : denX Try.prog 0 Try.f17.ntmps Tryk17 Trye17 Tryp17 lf (codeOf Try.f17) = Tryd17 := by kernel_rfl
theorem TryF17_eq (x0 : V) (h : Hp) : TryF17 [x0] h = outR Try.prog [.tmp 2] (Tryd17 (T.set (some x0) (Pos.of 0) T.nil) h) := funX_eq (by kernel_rfl) TryD17 (by kernel_rfl) h
theorem Tryc17 : CallOk Try.prog 0 17 TryF17 := funX_ok Trymix (callsOk_cons Tryc18 callsOk_0) Try.func17 (by kernel_rfl)

/-! 19: pillarbox/pillarboxref17.within -/
def Tryk19 : Nat → Bool := fun t => memN t [0, 1, 4, 5, 9, 17]
def Tryr19_0 (fr : F) (h : Hp) : Out :=
  Out.nor (T.set (some (.bool false)) (Pos.of 4) fr) h
def Tryr19_1 (fr : F) (h : Hp) : Out :=
  Out.nor (T.set (some (.int .i64 0)) (Pos.of 5) fr) h
def Tryr19_2 (fr : F) (h : Hp) : Out :=
  gtO (T.get fr (Pos.of 5)) fun v5 => gtO (T.get fr (Pos.of 0)) fun v0 => bndO (oLenK 2 v0 h) fun v8 h2 =>
  bndO (oBin .lss .none v5 v8 h2) fun v9 h3 =>
  Out.nor (T.set (some v9) (Pos.of 9) fr) h3
def Tryr19_4 (fr : F) (h : Hp) : Out :=
  gtO (T.get fr (Pos.of 0)) fun v0 => gtO (T.get fr (Pos.of 5)) fun v5 => bndO (oIdxS 1 v0 v5 h) fun v14 h2 =>
  bndO (oLoad1 v14 h2) fun v15 h3 =>
  gtO (T.get fr (Pos.of 1)) fun v1 => bndO (oBin .eql .none v15 v1 h3) fun v17 h5 =>
  Out.nor (T.set (some v17) (Pos.of 17) fr) h5
def Tryr19_5 (fr : F) (h : Hp) : Out :=
  Out.nor (T.set (some (.bool true)) (Pos.of 4) fr) h
def Tryr19_3 (fr : F) (h : Hp) : Out :=
  gtO (T.get fr (Pos.of 5)) fun v5 => bndO (oBin .add .none v5 (.int .i64 1) h) fun v11 h1 =>
  Out.nor (T.set (some v11) (Pos.of 5) fr) h1
def Tryr19_6 (fr : F) (h : Hp) : Out :=
  Out.nor (T.set (some (.bool false)) (Pos.of 4) fr) h
def Tryb19_2 : F → Hp → Out := (seqO (seqO Tryr19_2 (cndX (.tmp 9) Out.nor (Out.ex 0))) (seqO (blkO 1 (seqO Tryr19_4 (cndX (.tmp 17) (seqO Tryr19_5 Out.ret) Out.nor))) Tryr19_3))
def Tryd19 : F → Hp → Out := (seqO Tryr19_0 (seqO (seqO Tryr19_1 (blkO 0 (loopO Tryb19_2 lf))) (seqO Tryr19_6 Out.ret)))
def Trye19 : FuncId → Option Fun := fun f => none
def Tryp19 : Plans := fun id => none
def TryF19 : Fun := funX Try.prog 0 Tryk19 Trye19 Tryp19 lf Try.f19
theorem TryD19 : denX Try.prog 0 Try.f19.ntmps Tryk19 Trye19 Tryp19 lf (codeOf Try.f19) = Tryd19 := by kernel_rfl
theorem TryF19_eq (x0 x1 : V) (h : Hp) : TryF19 [x0, x1] h = outR Try.prog [.tmp 4] (Tryd19 (T.set (some x1) (Pos.of 1) (T.set (some x0) (Pos.of 0) T.nil)) h) := funX_eq (by kernel_rfl) TryD19 (by kernel_rfl) h
theorem Tryc19 : CallOk Try.prog 0 19 TryF19 := funX_ok Trymix callsOk_0 Try.func19 (by kernel_rfl)

/-! 11: pillarbox/pillarboxref17.Diff -/
def Tryk11 : Nat → Bool := fun t => memN t [0, 1, 4, 5, 6, 7, 8, 9, 10, 11, 12, 20, 24, 35, 54, 63]
def Tryr11_0 (fr : F) (h : Hp) : Out :=
  Out.nor (T.set (some .nils) (Pos.of 5) (T.set (some .nils) (Pos.of 4) fr)) h
def Tryr11_1 (fr : F) (h : Hp) : Out :=
  gtO (T.get fr (Pos.of 0)) fun v0 => bndO (TryF17 [v0] h) fun v14 h1 =>
  bndO (oUn .not v14 h1) fun v15 h2 =>
  ifB v15 (Out.nor (T.set (some (.bool true)) (Pos.of 20) fr) h2) (gtO (T.get fr (Pos.of 1)) fun v1 => bndO (TryF17 [v1] h2) fun v18 h5 =>
  bndO (oUn .not v18 h5) fun v19 h6 =>
  Out.nor (T.set (some v19) (Pos.of 20) fr) h6)
def Tryr11_2 (fr : F) (h : Hp) : Out :=
  Out.nor (T.set (some .nils) (Pos.of 5) (T.set (some .nils) (Pos.of 4) fr)) h
def Tryr11_3 (fr : F) (h : Hp) : Out :=
  Out.nor (T.set (some .nils) (Pos.of 7) (T.set (some .nils) (Pos.of 6) fr)) h
def Tryr11_4 (fr : F) (h : Hp) : Out :=
  Out.nor (T.set (some (.int .i64 (-1))) (Pos.of 8) fr) h
def Tryr11_5 (fr : F) (h : Hp) : Out :=
  Out.nor (T.set (some (.int .i64 0)) (Pos.of 9) fr) h
def Tryr11_6 (fr : F) (h : Hp) : Out :=
  gtO (T.get fr (Pos.of 9)) fun v9 => gtO (T.get fr (Pos.of 0)) fun v0 => bndO (oLenK 2 v0 h) fun v23 h2 =>
  bndO (oBin .lss .none v9 v23 h2) fun v24 h3 =>
  Out.nor (T.set (some v24) (Pos.of 24) fr) h3
def Tryr11_8 (fr : F) (h : Hp) : Out :=
  gtO (T.get fr (Pos.of 1)) fun v1 => gtO (T.get fr (Pos.of 0)) fun v0 => gtO (T.get fr (Pos.of 9)) fun v9 => bndO (oIdxS 1 v0 v9 h) fun v30 h3 =>
  bndO (oLoad1 v30 h3) fun v31 h4 =>
  bndO (TryF18 [v1, v31] h4) fun v32 h5 =>
  Out.nor (T.set (some v32) (Pos.of 10) fr) h5
def Tryr11_9 (fr : F) (h : Hp) : Out :=
  gtO (T.get fr (Pos.of 10)) fun v10 => gtO (T.get fr (Pos.of 8)) fun v8 => bndO (oBin .gtr .none v10 v8 h) fun v35 h2 =>
  Out.nor (T.set (some v35) (Pos.of 35) fr) h2
def Tryr11_10 (fr : F) (h : Hp) : Out :=
  gtO (T.get fr (Pos.of 10)) fun v10 => Out.nor (T.set (some v10) (Pos.of 8) fr) h
def Tryr11_11 (fr : F) (h : Hp) : Out :=
  gtO (T.get fr (Pos.of 6)) fun v6 => gtO (T.get fr (Pos.of 0)) fun v0 => gtO (T.get fr (Pos.of 9)) fun v9 => bndO (oIdxS 1 v0 v9 h) fun v40 h3 =>
  bndO (oLoad1 v40 h3) fun v41 h4 =>
  bndO (oBuildSlice [(.int .i64 0)] 1 [(0, 1, v41)] h4) fun v42 h5 =>
  bndO (oAppend 1 8 v6 v42 h5) fun v43 h6 =>
  Out.nor (T.set (some v43) (Pos.of 6) fr) h6
def Tryr11_12 (fr : F) (h : Hp) : Out :=
  gtO (T.get fr (Pos.of 7)) fun v7 => gtO (T.get fr (Pos.of 0)) fun v0 => gtO (T.get fr (Pos.of 9)) fun v9 => bndO (oIdxS 1 v0 v9 h) fun v47 h3 =>
  bndO (oLoad1 v47 h3) fun v48 h4 =>
  bndO (oBuildSlice [(.int .i64 0)] 1 [(0, 1, v48)] h4) fun v49 h5 =>
  bndO (oAppend 1 8 v7 v49 h5) fun v50 h6 =>
  Out.nor (T.set (some v50) (Pos.of 7) fr) h6
def Tryr11_7 (fr : F) (h : Hp) : Out :=
  gtO (T.get fr (Pos.of 9)) fun v9 => bndO (oBin .add .none v9 (.int .i64 1) h) fun v26 h1 =>
  Out.nor (T.set (some v26) (Pos.of 9) fr) h1
def Tryr11_13 (fr : F) (h : Hp) : Out :=
  Out.nor (T.set (some .nils) (Pos.of 11) fr) h
def Tryr11_14 (fr : F) (h : Hp) : Out :=
  Out.nor (T.set (some (.int .i64 0)) (Pos.of 12) fr) h
def Tryr11_15 (fr : F) (h : Hp) : Out :=
  gtO (T.get fr (Pos.of 12)) fun v12 => gtO (T.get fr (Pos.of 1)) fun v1 => bndO (oLenK 2 v1 h) fun v53 h2 =>
  bndO (oBin .lss .none v12 v53 h2) fun v54 h3 =>
  Out.nor (T.set (some v54) (Pos.of 54) fr) h3
def Tryr11_17 (fr : F) (h : Hp) : Out :=
  gtO (T.get fr (Pos.of 6)) fun v6 => gtO (T.get fr (Pos.of 1)) fun v1 => gtO (T.get fr (Pos.of 12)) fun v12 => bndO (oIdxS 1 v1 v12 h) fun v60 h3 =>
  bndO (oLoad1 v60 h3) fun v61 h4 =>
  bndO (TryF19 [v6, v61] h4) fun v62 h5 =>
  bndO (oUn .not v62 h5) fun v63 h6 =>
  Out.nor (T.set (some v63) (Pos.of 63) fr) h6
def Tryr11_18 (fr : F) (h : Hp) : Out :=
  gtO (T.get fr (Pos.of 11)) fun v11 => gtO (T.get fr (Pos.of 1)) fun v1 => gtO (T.get fr (Pos.of 12)) fun v12 => bndO (oIdxS 1 v1 v12 h) fun v67 h3 =>
  bndO (oLoad1 v67 h3) fun v68 h4 =>
  bndO (oBuild [(.int .i64 0), (.int .i64 0)] [(0, 1, v68), (1, 1, v12)] h4) fun v70 h6 =>
  bndO (oBuildSlice [(.int .i64 0), (.int .i64 0)] 1 [(0, 2, v70)] h6) fun v71 h7 =>
  bndO (oAppend 2 16 v11 v71 h7) fun v72 h8 =>
  Out.nor (T.set (some v72) (Pos.of 11) fr) h8
def Tryr11_16 (fr : F) (h : Hp) : Out :=
  gtO (T.get fr (Pos.of 12)) fun v12 => bndO (oBin .add .none v12 (.int .i64 1) h) fun v56 h1 =>
  Out.nor (T.set (some v56) (Pos.of 12) fr) h1
def Tryr11_19 (fr : F) (h : Hp) : Out :=
  gtO (T.get fr (Pos.of 7)) fun v7 => gtO (T.get fr (Pos.of 11)) fun v11 => Out.nor (T.set (some v11) (Pos.of 5) (T.set (some v7) (Pos.of 4) fr)) h
def Tryb11_6 : F → Hp → Out := (seqO (seqO Tryr11_6 (cndX (.tmp 24) Out.nor (Out.ex 0))) (seqO (blkO 1 (seqO Tryr11_8 (seqO Tryr11_9 (cndX (.tmp 35) (seqO Tryr11_10 Tryr11_11) Tryr11_12)))) Tryr11_7))
def Tryb11_15 : F → Hp → Out := (seqO (seqO Tryr11_15 (cndX (.tmp 54) Out.nor (Out.ex 2))) (seqO (blkO 3 (seqO Tryr11_17 (cndX (.tmp 63) Tryr11_18 Out.nor))) Tryr11_16))
def Tryd11 : F → Hp → Out := (seqO Tryr11_0 (seqO (seqO Tryr11_1 (cndX (.tmp 20) (seqO Tryr11_2 Out.ret) Out.nor)) (seqO Tryr11_3 (seqO Tryr11_4 (seqO (seqO Tryr11_5 (blkO 0 (loopO Tryb11_6 lf))) (seqO Tryr11_13 (seqO (seqO Tryr11_14 (blkO 2 (loopO Tryb11_15 lf))) (seqO Tryr11_19 Out.ret))))))))
def Trye11 : FuncId → Option Fun := fun f => match Nat.beq f 17 with | true => some TryF17 | false => match Nat.beq f 18 with | true => some TryF18 | false => match Nat.beq f 19 with | true => some TryF19 | false => none
def Tryp11 : Plans := fun id => none
def TryF11 : Fun := funX Try.prog 0 Tryk11 Trye11 Tryp11 lf Try.f11
theorem TryD11 : denX Try.prog 0 Try.f11.ntmps Tryk11 Trye11 Tryp11 lf (codeOf Try.f11) = Tryd11 := by kernel_rfl
theorem TryF11_eq (x0 x1 : V) (h : Hp) : TryF11 [x0, x1] h = outR Try.prog [.tmp 4, .tmp 5] (Tryd11 (T.set (some x1) (Pos.of 1) (T.set (some x0) (Pos.of 0) T.nil)) h) := funX_eq (by kernel_rfl) TryD11 (by kernel_rfl) h
theorem Tryc11 : CallOk Try.prog 0 11 TryF11 := funX_ok Trymix (callsOk_cons Tryc17 (callsOk_cons Tryc18 (callsOk_cons Tryc19 callsOk_0))) Try.func11 (by kernel_rfl)

/-! 14: pillarbox/pillarboxref17.Apply -/
def Tryk14 : Nat → Bool := fun t => memN t [0, 1, 2, 6, 7, 8, 9, 10, 11, 15, 24, 35, 55]
def Tryr14_0 (fr : F) (h : Hp) : Out :=
  Out.nor (T.set (some .nils) (Pos.of 6) fr) h
def Tryr14_1 (fr : F) (h : Hp) : Out :=
  Out.nor (T.set (some .nils) (Pos.of 7) fr) h
def Tryr14_2 (fr : F) (h : Hp) : Out :=
  Out.nor (T.set (some (.int .i64 0)) (Pos.of 8) fr) h
def Tryr14_3 (fr : F) (h : Hp) : Out :=
  gtO (T.get fr (Pos.of 8)) fun v8 => gtO (T.get fr (Pos.of 0)) fun v0 => bndO (oLenK 2 v0 h) fun v14 h2 =>
  bndO (oBin .lss .none v8 v14 h2) fun v15 h3 =>
  Out.nor (T.set (some v15) (Pos.of 15) fr) h3
def Tryr14_5 (fr : F) (h : Hp) : Out :=
  gtO (T.get fr (Pos.of 1)) fun v1 => gtO (T.get fr (Pos.of 0)) fun v0 => gtO (T.get fr (Pos.of 8)) fun v8 => bndO (oIdxS 1 v0 v8 h) fun v21 h3 =>
  bndO (oLoad1 v21 h3) fun v22 h4 =>
  bndO (TryF19 [v1, v22] h4) fun v23 h5 =>
  bndO (oUn .not v23 h5) fun v24 h6 =>
  Out.nor (T.set (some v24) (Pos.of 24) fr) h6
def Tryr14_6 (fr : F) (h : Hp) : Out :=
  gtO (T.get fr (Pos.of 7)) fun v7 => gtO (T.get fr (Pos.of 0)) fun v0 => gtO (T.get fr (Pos.of 8)) fun v8 => bndO (oIdxS 1 v0 v8 h) fun v28 h3 =>
  bndO (oLoad1 v28 h3) fun v29 h4 =>
  bndO (oBuildSlice [(.int .i64 0)] 1 [(0, 1, v29)] h4) fun v30 h5 =>
  bndO (oAppend 1 8 v7 v30 h5) fun v31 h6 =>
  Out.nor (T.set (some v31) (Pos.of 7) fr) h6
def Tryr14_4 (fr : F) (h : Hp) : Out :=
  gtO (T.get fr (Pos.of 8)) fun v8 => bndO (oBin .add .none v8 (.int .i64 1) h) fun v17 h1 =>
  Out.nor (T.set (some v17) (Pos.of 8) fr) h1
def Tryr14_7 (fr : F) (h : Hp) : Out :=
  Out.nor (T.set (some (.int .i64 0)) (Pos.of 9) fr) h
def Tryr14_8 (fr : F) (h : Hp) : Out :=
  gtO (T.get fr (Pos.of 9)) fun v9 => gtO (T.get fr (Pos.of 2)) fun v2 => bndO (oLenK 2 v2 h) fun v34 h2 =>
  bndO (oBin .lss .none v9 v34 h2) fun v35 h3 =>
  Out.nor (T.set (some v35) (Pos.of 35) fr) h3
def Tryr14_10 (fr : F) (h : Hp) : Out :=
  gtO (T.get fr (Pos.of 2)) fun v2 => gtO (T.get fr (Pos.of 9)) fun v9 => bndO (oIdxS 2 v2 v9 h) fun v40 h2 =>
  bndO (oFieldAddr 1 v40 h2) fun v41 h3 =>
  bndO (oLoad1 v41 h3) fun v42 h4 =>
  gtO (T.get fr (Pos.of 7)) fun v7 => bndO (oLenK 2 v7 h4) fun v44 h6 =>
  bndO (oMin v42 v44 h6) fun v45 h7 =>
  bndO (oMax (.int .i64 0) v45 h7) fun v46 h8 =>
  Out.nor (T.set (some v46) (Pos.of 10) fr) h8
def Tryr14_11 (fr : F) (h : Hp) : Out :=
  gtO (T.get fr (Pos.of 7)) fun v7 => bndO (oBuildSlice [(.int .i64 0)] 1 [(0, 1, (.int .i64 0))] h) fun v48 h1 =>
  bndO (oAppend 1 8 v7 v48 h1) fun v49 h2 =>
  Out.nor (T.set (some v49) (Pos.of 7) fr) h2
def Tryr14_12 (fr : F) (h : Hp) : Out :=
  gtO (T.get fr (Pos.of 7)) fun v7 => bndO (oLenK 2 v7 h) fun v51 h1 =>
  bndO (oBin .sub .none v51 (.int .i64 1) h1) fun v52 h2 =>
  Out.nor (T.set (some v52) (Pos.of 11) fr) h2
def Tryr14_13 (fr : F) (h : Hp) : Out :=
  gtO (T.get fr (Pos.of 11)) fun v11 => gtO (T.get fr (Pos.of 10)) fun v10 => bndO (oBin .gtr .none v11 v10 h) fun v55 h2 =>
  Out.nor (T.set (some v55) (Pos.of 55) fr) h2
def Tryr14_15 (fr : F) (h : Hp) : Out :=
  gtO (T.get fr (Pos.of 7)) fun v7 => gtO (T.get fr (Pos.of 11)) fun v11 => bndO (oBin .sub .none v11 (.int .i64 1) h) fun v62 h4 =>
  bndO (oIdxS 1 v7 v62 h4) fun v63 h5 =>
  bndO (oLoad1 v63 h5) fun v64 h6 =>
  bndO (oIdxS 1 v7 v11 h6) fun v65 h7 =>
  bndO (oStore 1 v65 v64 h7) fun _u8 h8 =>
  Out.nor fr h8
def Tryr14_14 (fr : F) (h : Hp) : Out :=
  gtO (T.get fr (Pos.of 11)) fun v11 => bndO (oBin .sub .none v11 (.int .i64 1) h) fun v57 h1 =>
  Out.nor (T.set (some v57) (Pos.of 11) fr) h1
def Tryr14_16 (fr : F) (h : Hp) : Out :=
  gtO (T.get fr (Pos.of 7)) fun v7 => gtO (T.get fr (Pos.of 10)) fun v10 => gtO (T.get fr (Pos.of 2)) fun v2 => gtO (T.get fr (Pos.of 9)) fun v9 => bndO (oIdxS 2 v2 v9 h) fun v70 h4 =>
  bndO (oFieldAddr 0 v70 h4) fun v71 h5 =>
  bndO (oLoad1 v71 h5) fun v72 h6 =>
  bndO (oIdxS 1 v7 v10 h6) fun v73 h7 =>
  bndO (oStore 1 v73 v72 h7) fun _u8 h8 =>
  Out.nor fr h8
def Tryr14_9 (fr : F) (h : Hp) : Out :=
  gtO (T.get fr (Pos.of 9)) fun v9 => bndO (oBin .add .none v9 (.int .i64 1) h) fun v37 h1 =>
  Out.nor (T.set (some v37) (Pos.of 9) fr) h1
def Tryr14_17 (fr : F) (h : Hp) : Out :=
  gtO (T.get fr (Pos.of 7)) fun v7 => Out.nor (T.set (some v7) (Pos.of 6) fr) h
def Tryb14_3 : F → Hp → Out := (seqO (seqO Tryr14_3 (cndX (.tmp 15) Out.nor (Out.ex 0))) (seqO (blkO 1 (seqO Tryr14_5 (cndX (.tmp 24) Tryr14_6 Out.nor))) Tryr14_4))
def Tryb14_13 : F → Hp → Out := (seqO (seqO Tryr14_13 (cndX (.tmp 55) Out.nor (Out.ex 4))) (seqO (blkO 5 Tryr14_15) Tryr14_14))
def Tryb14_8 : F → Hp → Out := (seqO (seqO Tryr14_8 (cndX (.tmp 35) Out.nor (Out.ex 2))) (seqO (blkO 3 (seqO Tryr14_10 (seqO Tryr14_11 (seqO (seqO Tryr14_12 (blkO 4 (loopO Tryb14_13 lf))) Tryr14_16)))) Tryr14_9))
def Tryd14 : F → Hp → Out := (seqO Tryr14_0 (seqO Tryr14_1 (seqO (seqO Tryr14_2 (blkO 0 (loopO Tryb14_3 lf))) (seqO (seqO Tryr14_7 (blkO 2 (loopO Tryb14_8 lf))) (seqO Tryr14_17 Out.ret)))))
def Trye14 : FuncId → Option Fun := fun f => match Nat.beq f 19 with | true => some TryF19 | false => none
def Tryp14 : Plans := fun id => none
def TryF14 : Fun := funX Try.prog 0 Tryk14 Trye14 Tryp14 lf Try.f14
theorem TryD14 : denX Try.prog 0 Try.f14.ntmps Tryk14 Trye14 Tryp14 lf (codeOf Try.f14) = Tryd14 := by kernel_rfl
theorem TryF14_eq (x0 x1 x2 : V) (h : Hp) : TryF14 [x0, x1, x2] h = outR Try.prog [.tmp 6] (Tryd14 (T.set (some x2) (Pos.of 2) (T.set (some x1) (Pos.of 1) (T.set (some x0) (Pos.of 0) T.nil))) h) := funX_eq (by kernel_rfl) TryD14 (by kernel_rfl) h
theorem Tryc14 : CallOk Try.prog 0 14 TryF14 := funX_ok Trymix (callsOk_cons Tryc19 callsOk_0) Try.func14 (by kernel_rfl)

/-! 22: slices.Index[[]int,int] -/
def Tryk22 : Nat → Bool := fun t => memN t [0, 1, 4, 5, 7, 8, 9, 16]
def Tryr22_0 (fr : F) (h : Hp) : Out :=
  Out.nor (T.set (some (.int .i64 0)) (Pos.of 4) fr) h
def Tryr22_1 (fr : F) (h : Hp) : Out :=
  gtO (T.get fr (Pos.of 0)) fun v0 => bndO (oLenK 2 v0 h) fun v7 h1 =>
  Out.nor (T.set (some (.int .i64 0)) (Pos.of 8) (T.set (some v7) (Pos.of 7) fr)) h1
def Tryr22_2 (fr : F) (h : Hp) : Out :=
  gtO (T.get fr (Pos.of 8)) fun v8 => gtO (T.get fr (Pos.of 7)) fun v7 => bndO (oBin .lss .none v8 v7 h) fun v9 h0 =>
  Out.nor (T.set (some v9) (Pos.of 9) fr) h0
def Tryr22_3 (fr : F) (h : Hp) : Out :=
  gtO (T.get fr (Pos.of 8)) fun v8 => Out.nor (T.set (some v8) (Pos.of 5) fr) h
def Tryr22_4 (fr : F) (h : Hp) : Out :=
  gtO (T.get fr (Pos.of 1)) fun v1 => gtO (T.get fr (Pos.of 0)) fun v0 => gtO (T.get fr (Pos.of 5)) fun v5 => bndO (oIdxS 1 v0 v5 h) fun v14 h3 =>
  bndO (oLoad1 v14 h3) fun v15 h4 =>
  bndO (oBin .eql .none v1 v15 h4) fun v16 h5 =>
  Out.nor (T.set (some v16) (Pos.of 16) fr) h5
def Tryr22_5 (fr : F) (h : Hp) : Out :=
  gtO (T.get fr (Pos.of 5)) fun v5 => Out.nor (T.set (some v5) (Pos.of 4) fr) h
def Tryr22_6 (fr : F) (h : Hp) : Out :=
  gtO (T.get fr (Pos.of 8)) fun v8 => bndO (oBin .add .none v8 (.int .i64 1) h) fun v18 h0 =>
  Out.nor (T.set (some v18) (Pos.of 8) fr) h0
def Tryr22_7 (fr : F) (h : Hp) : Out :=
  Out.nor (T.set (some (.int .i64 (-1))) (Pos.of 4) fr) h
def Tryb22_2 : F → Hp → Out := (seqO Tryr22_2 (seqO (cndX (.tmp 9) Out.nor (Out.ex 0)) (seqO (blkO 1 (seqO Tryr22_3 (seqO Tryr22_4 (cndX (.tmp 16) (seqO Tryr22_5 Out.ret) Out.nor)))) Tryr22_6)))
def Tryd22 : F → Hp → Out := (seqO Tryr22_0 (seqO (seqO Tryr22_1 (blkO 0 (loopO Tryb22_2 lf))) (seqO Tryr22_7 Out.ret)))
def Trye22 : FuncId → Option Fun := fun f => none
def Tryp22 : Plans := fun id => none
def TryF22 : Fun := funX Try.prog 0 Tryk22 Trye22 Tryp22 lf Try.f22
theorem TryD22 : denX Try.prog 0 Try.f22.ntmps Tryk22 Trye22 Tryp22 lf (codeOf Try.f22) = Tryd22 := by kernel_rfl
theorem TryF22_eq (x0 x1 : V) (h : Hp) : TryF22 [x0, x1] h = outR Try.prog [.tmp 4] (Tryd22 (T.set (some x1) (Pos.of 1) (T.set (some x0) (Pos.of 0) T.nil)) h) := funX_eq (by kernel_rfl) TryD22 (by kernel_rfl) h
theorem Tryc22 : CallOk Try.prog 0 22 TryF22 := funX_ok Trymix callsOk_0 Try.func22 (by kernel_rfl)

/-! 20: slices.Contains[[]int,int] -/
def Tryk20 : Nat → Bool := fun t => memN t [0, 1, 4]
def Tryr20_0 (fr : F) (h : Hp) : Out :=
  Out.nor (T.set (some (.bool false)) (Pos.of 4) fr) h
def Tryr20_1 (fr : F) (h : Hp) : Out :=
  gtO (T.get fr (Pos.of 0)) fun v0 => gtO (T.get fr (Pos.of 1)) fun v1 => bndO (TryF22 [v0, v1] h) fun v7 h2 =>
  bndO (oBin .geq .none v7 (.int .i64 0) h2) fun v8 h3 =>
  Out.nor (T.set (some v8) (Pos.of 4) fr) h3
def Tryd20 : F → Hp → Out := (seqO Tryr20_0 (seqO Tryr20_1 Out.ret))
def Trye20 : FuncId → Option Fun := fun f => match Nat.beq f 22 with | true => some TryF22 | false => none
def Tryp20 : Plans := fun id => none
def TryF20 : Fun := funX Try.prog 0 Tryk20 Trye20 Tryp20 lf Try.f20
theorem TryD20 : denX Try.prog 0 Try.f20.ntmps Tryk20 Trye20 Tryp20 lf (codeOf Try.f20) = Tryd20 := by kernel_rfl
theorem TryF20_eq (x0 x1 : V) (h : Hp) : TryF20 [x0, x1] h = outR Try.prog [.tmp 4] (Tryd20 (T.set (some x1) (Pos.of 1) (T.set (some x0) (Pos.of 0) T.nil)) h) := funX_eq (by kernel_rfl) TryD20 (by kernel_rfl) h
theorem Tryc20 : CallOk Try.prog 0 20 TryF20 := funX_ok Trymix (callsOk_cons Tryc22 callsOk_0) Try.func20 (by kernel_rfl)

/-! 3: pillarbox/pillarboxlaw20.DiffTakes -/
def Tryk3 : Nat → Bool := fun t => memN t [0, 1, 2, 6, 7, 8, 9, 10, 11, 12, 13, 14, 15, 16, 22, 39, 55, 78, 81, 105]
def Tryr3_0 (fr : F) (h : Hp) : Out :=
  Out.nor (T.set (some (.bool false)) (Pos.of 6) fr) h
def Tryr3_1 (fr : F) (h : Hp) : Out :=
  gtO (T.get fr (Pos.of 0)) fun v0 => bndO (oConvInt .i64 v0 h) fun v18 h1 =>
  bndO (oBin .rem .none v18 (.int .i64 60) h1) fun v19 h2 =>
  Out.nor (T.set (some v19) (Pos.of 7) fr) h2
def Tryr3_2 (fr : F) (h : Hp) : Out :=
  Out.nor (T.set (some .nils) (Pos.of 10) (T.set (some .nils) (Pos.of 9) (T.set (some .nils) (Pos.of 8) fr))) h
def Tryr3_3 (fr : F) (h : Hp) : Out :=
  Out.nor (T.set (some (.int .i64 0)) (Pos.of 11) fr) h
def Tryr3_4 (fr : F) (h : Hp) : Out :=
  gtO (T.get fr (Pos.of 11)) fun v11 => gtO (T.get fr (Pos.of 7)) fun v7 => bndO (oBin .lss .none v11 v7 h) fun v22 h2 =>
  Out.nor (T.set (some v22) (Pos.of 22) fr) h2
def Tryr3_6 (fr : F) (h : Hp) : Out :=
  gtO (T.get fr (Pos.of 8)) fun v8 => gtO (T.get fr (Pos.of 11)) fun v11 => bndO (oBin .add .none v11 (.int .i64 1) h) fun v27 h2 =>
  bndO (oBuildSlice [(.int .i64 0)] 1 [(0, 1, v27)] h2) fun v28 h3 =>
  bndO (oAppend 1 8 v8 v28 h3) fun v29 h4 =>
  Out.nor (T.set (some v29) (Pos.of 8) fr) h4
def Tryr3_7 (fr : F) (h : Hp) : Out :=
  gtO (T.get fr (Pos.of 11)) fun v11 => gtO (T.get fr (Pos.of 1)) fun v1 => bndO (oLenK 2 v1 h) fun v32 h2 =>
  bndO (oBin .lss .none v11 v32 h2) fun v33 h3 =>
  ifB v33 (bndO (oIdxS 1 v1 v11 h3) fun v37 h7 =>
  bndO (oLoad1 v37 h7) fun v38 h8 =>
  Out.nor (T.set (some v38) (Pos.of 39) fr) h8) (Out.nor (T.set (some (.bool false)) (Pos.of 39) fr) h3)
def Tryr3_8 (fr : F) (h : Hp) : Out :=
  gtO (T.get fr (Pos.of 10)) fun v10 => gtO (T.get fr (Pos.of 11)) fun v11 => bndO (oBin .add .none v11 (.int .i64 1) h) fun v42 h2 =>
  bndO (oBuildSlice [(.int .i64 0)] 1 [(0, 1, v42)] h2) fun v43 h3 =>
  bndO (oAppend 1 8 v10 v43 h3) fun v44 h4 =>
  Out.nor (T.set (some v44) (Pos.of 10) fr) h4
def Tryr3_9 (fr : F) (h : Hp) : Out :=
  gtO (T.get fr (Pos.of 9)) fun v9 => gtO (T.get fr (Pos.of 11)) fun v11 => bndO (oBin .add .none v11 (.int .i64 1) h) fun v47 h2 =>
  bndO (oBuildSlice [(.int .i64 0)] 1 [(0, 1, v47)] h2) fun v48 h3 =>
  bndO (oAppend 1 8 v9 v48 h3) fun v49 h4 =>
  Out.nor (T.set (some v49) (Pos.of 9) fr) h4
def Tryr3_5 (fr : F) (h : Hp) : Out :=
  gtO (T.get fr (Pos.of 11)) fun v11 => bndO (oBin .add .none v11 (.int .i64 1) h) fun v24 h1 =>
  Out.nor (T.set (some v24) (Pos.of 11) fr) h1
def Tryr3_10 (fr : F) (h : Hp) : Out :=
  gtO (T.get fr (Pos.of 2)) fun v2 => bndO (oConvInt .i64 v2 h) fun v51 h1 =>
  bndO (oBin .rem .none v51 (.int .i64 9) h1) fun v52 h2 =>
  Out.nor (T.set (some v52) (Pos.of 12) fr) h2
def Tryr3_11 (fr : F) (h : Hp) : Out :=
  Out.nor (T.set (some (.int .i64 0)) (Pos.of 13) fr) h
def Tryr3_12 (fr : F) (h : Hp) : Out :=
  gtO (T.get fr (Pos.of 13)) fun v13 => gtO (T.get fr (Pos.of 12)) fun v12 => bndO (oBin .lss .none v13 v12 h) fun v55 h2 =>
  Out.nor (T.set (some v55) (Pos.of 55) fr) h2
def Tryr3_14 (fr : F) (h : Hp) : Out :=
  gtO (T.get fr (Pos.of 9)) fun v9 => gtO (T.get fr (Pos.of 13)) fun v13 => bndO (oBin .add .none (.int .i64 100) v13 h) fun v60 h2 =>
  bndO (oBuildSlice [(.int .i64 0)] 1 [(0, 1, v60)] h2) fun v61 h3 =>
  bndO (oAppend 1 8 v9 v61 h3) fun v62 h4 =>
  Out.nor (T.set (some v62) (Pos.of 9) fr) h4
def Tryr3_13 (fr : F) (h : Hp) : Out :=
  gtO (T.get fr (Pos.of 13)) fun v13 => bndO (oBin .add .none v13 (.int .i64 1) h) fun v57 h1 =>
  Out.nor (T.set (some v57) (Pos.of 13) fr) h1
def Tryr3_15 (fr : F) (h : Hp) : Out :=
  gtO (T.get fr (Pos.of 8)) fun v8 => gtO (T.get fr (Pos.of 9)) fun v9 => bndO (TryF8 [v8, v9] h) fun v66 h2 =>
  bndO (oExtract 0 v66 h2) fun v67 h4 =>
  bndO (oExtract 1 v66 h4) fun v68 h5 =>
  Out.nor (T.set (some v68) (Pos.of 15) (T.set (some v67) (Pos.of 14) fr)) h5
def Tryr3_16 (fr : F) (h : Hp) : Out :=
  gtO (T.get fr (Pos.of 14)) fun v14 => gtO (T.get fr (Pos.of 10)) fun v10 => bndO (TryF9 [v14, v10] h) fun v71 h2 =>
  bndO (oUn .not v71 h2) fun v72 h3 =>
  ifB v72 (Out.nor (T.set (some (.bool true)) (Pos.of 78) fr) h3) (gtO (T.get fr (Pos.of 15)) fun v15 => bndO (oLenK 2 v15 h3) fun v75 h6 =>
  gtO (T.get fr (Pos.of 12)) fun v12 => bndO (oBin .neq .none v75 v12 h6) fun v77 h8 =>
  Out.nor (T.set (some v77) (Pos.of 78) fr) h8)
def Tryr3_17 (fr : F) (h : Hp) : Out :=
  Out.nor (T.set (some (.bool false)) (Pos.of 6) fr) h
def Tryr3_18 (fr : F) (h : Hp) : Out :=
  Out.nor (T.set (some (.int .i64 0)) (Pos.of 16) fr) h
def Tryr3_19 (fr : F) (h : Hp) : Out :=
  gtO (T.get fr (Pos.of 16)) fun v16 => gtO (T.get fr (Pos.of 12)) fun v12 => bndO (oBin .lss .none v16 v12 h) fun v81 h2 =>
  Out.nor (T.set (some v81) (Pos.of 81) fr) h2
def Tryr3_21 (fr : F) (h : Hp) : Out :=
  gtO (T.get fr (Pos.of 15)) fun v15 => gtO (T.get fr (Pos.of 16)) fun v16 => bndO (oIdxS 2 v15 v16 h) fun v86 h2 =>
  bndO (oFieldAddr 0 v86 h2) fun v87 h3 =>
  bndO (oLoad1 v87 h3) fun v88 h4 =>
  bndO (oBin .add .none (.int .i64 100) v16 h4) fun v90 h6 =>
  bndO (oBin .neq .none v88 v90 h6) fun v91 h7 =>
  ifB v91 (Out.nor (T.set (some (.bool true)) (Pos.of 105) fr) h7) (bndO (oIdxS 2 v15 v16 h7) fun v95 h11 =>
  bndO (oFieldAddr 1 v95 h11) fun v96 h12 =>
  bndO (oLoad1 v96 h12) fun v97 h13 =>
  gtO (T.get fr (Pos.of 7)) fun v7 => gtO (T.get fr (Pos.of 10)) fun v10 => bndO (oLenK 2 v10 h13) fun v100 h16 =>
  bndO (oBin .sub .none v7 v100 h16) fun v101 h17 =>
  bndO (oBin .add .none v101 v16 h17) fun v103 h19 =>
  bndO (oBin .neq .none v97 v103 h19) fun v104 h20 =>
  Out.nor (T.set (some v104) (Pos.of 105) fr) h20)
def Tryr3_22 (fr : F) (h : Hp) : Out :=
  Out.nor (T.set (some (.bool false)) (Pos.of 6) fr) h
def Tryr3_20 (fr : F) (h : Hp) : Out :=
  gtO (T.get fr (Pos.of 16)) fun v16 => bndO (oBin .add .none v16 (.int .i64 1) h) fun v83 h1 =>
  Out.nor (T.set (some v83) (Pos.of 16) fr) h1
def Tryr3_23 (fr : F) (h : Hp) : Out :=
  bndO (TryF10 [] h) fun v106 h0 =>
  Out.nor (T.set (some v106) (Pos.of 6) fr) h0
def Tryb3_4 : F → Hp → Out := (seqO (seqO Tryr3_4 (cndX (.tmp 22) Out.nor (Out.ex 0))) (seqO (blkO 1 (seqO Tryr3_6 (seqO Tryr3_7 (cndX (.tmp 39) Tryr3_8 Tryr3_9)))) Tryr3_5))
def Tryb3_12 : F → Hp → Out := (seqO (seqO Tryr3_12 (cndX (.tmp 55) Out.nor (Out.ex 2))) (seqO (blkO 3 Tryr3_14) Tryr3_13))
def Tryb3_19 : F → Hp → Out := (seqO (seqO Tryr3_19 (cndX (.tmp 81) Out.nor (Out.ex 4))) (seqO (blkO 5 (seqO Tryr3_21 (cndX (.tmp 105) (seqO Tryr3_22 Out.ret) Out.nor))) Tryr3_20))
def Tryd3 : F → Hp → Out := (seqO Tryr3_0 (seqO Tryr3_1 (seqO Tryr3_2 (seqO (seqO Tryr3_3 (blkO 0 (loopO Tryb3_4 lf))) (seqO Tryr3_10 (seqO (seqO Tryr3_11 (blkO 2 (loopO Tryb3_12 lf))) (seqO Tryr3_15 (seqO (seqO Tryr3_16 (cndX (.tmp 78) (seqO Tryr3_17 Out.ret) Out.nor)) (seqO (seqO Tryr3_18 (blkO 4 (loopO Tryb3_19 lf))) (seqO Tryr3_23 Out.ret))))))))))
def Trye3 : FuncId → Option Fun := fun f => match Nat.beq f 8 with | true => some TryF8 | false => match Nat.beq f 9 with | true => some TryF9 | false => match Nat.beq f 10 with | true => some TryF10 | false => none
def Tryp3 : Plans := fun id => none
def TryF3 : Fun := funX Try.prog 0 Tryk3 Trye3 Tryp3 lf Try.f3
theorem TryD3 : denX Try.prog 0 Try.f3.ntmps Tryk3 Trye3 Tryp3 lf (codeOf Try.f3) = Tryd3 := by kernel_rfl
theorem TryF3_eq (x0 x1 x2 : V) (h : Hp) : TryF3 [x0, x1, x2] h = outR Try.prog [.tmp 6] (Tryd3 (T.set (some x2) (Pos.of 2) (T.set (some x1) (Pos.of 1) (T.set (some x0) (Pos.of 0) T.nil))) h) := funX_eq (by kernel_rfl) TryD3 (by kernel_rfl) h
theorem Tryc3 : CallOk Try.prog 0 3 TryF3 := funX_ok Trymix (callsOk_cons Tryc8 (callsOk_cons Tryc9 (callsOk_cons Tryc10 callsOk_0))) Try.func3 (by kernel_rfl)

end Go.Proofs.Ytmlbnkojodkieaa

noncomputable section
namespace Go.Proofs.Ytmlbnkojodkieaa
open Go Go.Proofs Go.Vm
set_option linter.unusedVariables false
set_option maxRecDepth 100000
set_option linter.unusedSimpArgs false
def ints (l : List Int) : List V := l.map (V.int .i64)
theorem ints_length (l : List Int) : (ints l).length = l.length := by simp [ints]
theorem ints_get (l : List Int) (k : Nat) : (ints l)[k]? = (l[k]?).map (V.int .i64) := by simp [ints]
theorem ints_append (l m : List Int) : ints (l ++ m) = ints l ++ ints m := by simp [ints]
/-- where each number stands in a list -/
def posM (l : List Int) : Int → Option V := fun x => (l.idxOf? x).map fun (i : Nat) => V.int .i64 (i : Int)
theorem idxOf?_snoc (l : List Int) (a x : Int) : (l ++ [a]).idxOf? x = (l.idxOf? x).or (if x = a then some l.length else none) := by
  induction l with
  | nil => by_cases e : x = a
           · subst e; simp
           · simp [e, List.idxOf?_cons]; exact fun h => e h.symm
  | cons b l ih =>
    rw [List.cons_append, List.idxOf?_cons, List.idxOf?_cons, ih]
    by_cases e : b = x
    · simp [e]
    · simp only [beq_iff_eq, e, if_false]
      cases l.idxOf? x with
      | some i => simp
      | none => by_cases e2 : x = a <;> simp [e2]
theorem idxOf?_none (l : List Int) (x : Int) : l.idxOf? x = none ↔ x ∉ l := by
  induction l with
  | nil => simp
  | cons b l ih =>
    rw [List.idxOf?_cons]
    by_cases e : b = x
    · simp [e]
    · simp only [beq_iff_eq, e, if_false, Option.map_eq_none_iff, ih, List.mem_cons, not_or]
      exact ⟨fun h => ⟨fun h' => e h'.symm, h⟩, fun h => h.2⟩
theorem posM_snoc {l : List Int} {a : Int} (ha : a ∉ l) : posM (l ++ [a]) = fun x => if x = a then some (.int .i64 (l.length : Int)) else posM l x := by
  funext x
  unfold posM
  rw [idxOf?_snoc]
  by_cases e : x = a
  · subst e; simp [(idxOf?_none l x).2 ha]
  · simp [e]
theorem posM_isSome (l : List Int) (x : Int) : (posM l x).isSome = decide (x ∈ l) := by
  unfold posM
  rw [Option.isSome_map]
  by_cases e : x ∈ l
  · have : l.idxOf? x ≠ none := fun h => (idxOf?_none l x).1 h e
    rw [decide_eq_true e]
    exact Option.isSome_iff_ne_none.2 this
  · simp [e, (idxOf?_none l x).2 e]

def PlacesQ (l : List Int) (b : Nat) (h : Hp) (r : V) (h' : Hp) : Prop :=
  Fr b h h' ∧ ((l.Nodup ∧ ∃ m es, r = .tuple (.cons (.map m) (.cons (.bool true) .nil)) ∧ b ≤ m.nat ∧ m.nat < h'.next.nat ∧ h'.get m = some (.map es) ∧ MapI es (posM l)) ∨
    (¬ l.Nodup ∧ ∃ y, r = .tuple (.cons y (.cons (.bool false) .nil))))
theorem places_ok {b : Nat} {h : Hp} {v : V} {l : List Int} (s : Sl b h 1 v l.length (ints l)) (hb : b ≤ h.next.nat) (hl : l.length < 1000) :
    ∃ r h', TryF16 [v] h = .ok r h' ∧ PlacesQ l b h r h' := by
  rw [TryF16_eq]
  show Tells Try.prog _ (PlacesQ l b h) _
  simp (disch := omega) only [seqO_eq, thenO_nor, thenO_ret, thenO_ex, gtO_some, bndO_ok, get_set_of, cndX_tmp, ifB_true, ifB_false, ifB_pos, ifB_neg, blkO_eq, blkX_nor, blkX_ret, blkX_ex, Nat.reduceEqDiff, Nat.zero_ne_one, Nat.one_ne_zero, reduceCtorEq, ↓reduceIte, oBin_add, oBin_sub, oBin_eql, oBin_neq, oBin_lss, oBin_leq, oBin_gtr, oBin_geq, oUn_not, oPick_true, oPick_false, oExtract_0, oExtract_1, oExtract_2, oMin_eq, oMax_eq, oFieldAddr_eq, oBuildSlice_1, oBuild_2, oBuildSlice_2, chk_zero, chk_nil, alcO_some, Bool.not_true, Bool.not_false, Option.getD_some, Option.getD_none, Option.isSome_some, Option.isSome_none, Tryd16, Tryr16_0, Tryr16_1, oMakeMap, Tryr16_2, s.length]
  refine Oc.then (loop_rule (n := l.length) (fun m fr h' => ∃ k es, k + m = l.length ∧ fr.get (Pos.of 10) = some v ∧ fr.get (Pos.of 11) = some (.int .i64 (l.length : Int)) ∧ fr.get (Pos.of 12) = some (.int .i64 (k : Int)) ∧
      fr.get (Pos.of 4) = some (.map h.next) ∧ h'.get h.next = some (.map es) ∧ MapI es (posM (l.take k)) ∧ (l.take k).Nodup ∧ Fr b h h' ∧ h.next.nat < h'.next.nat)
    (A := fun fr h' => ∃ es, fr.get (Pos.of 4) = some (.map h.next) ∧ h'.get h.next = some (.map es) ∧ MapI es (posM l) ∧ l.Nodup ∧ Fr b h h' ∧ h.next.nat < h'.next.nat)
    (B := fun fr h' => ∃ y, fr.get (Pos.of 2) = some y ∧ fr.get (Pos.of 3) = some (.bool false) ∧ ¬ l.Nodup ∧ Fr b h h') (by rw [lf_eq]; omega) ?_ ?_) ?_ ?_
  · refine ⟨0, [], by omega, ?_, ?_, ?_, ?_, new_self _ _, MapI.nil, by simp, Fr.new _ hb, by rw [new_next_nat]; omega⟩ <;> simp only [seqO_eq, thenO_nor, thenO_ret, thenO_ex, gtO_some, bndO_ok, get_set_of, cndX_tmp, ifB_true, ifB_false, ifB_pos, ifB_neg, blkO_eq, blkX_nor, blkX_ret, blkX_ex, Nat.reduceEqDiff, Nat.zero_ne_one, Nat.one_ne_zero, reduceCtorEq, ↓reduceIte, oBin_add, oBin_sub, oBin_eql, oBin_neq, oBin_lss, oBin_leq, oBin_gtr, oBin_geq, oUn_not, oPick_true, oPick_false, oExtract_0, oExtract_1, oExtract_2, oMin_eq, oMax_eq, oFieldAddr_eq, oBuildSlice_1, oBuild_2, oBuildSlice_2, chk_zero, chk_nil, alcO_some, Bool.not_true, Bool.not_false, Option.getD_some, Option.getD_none, Option.isSome_some, Option.isSome_none] <;> rfl
  · rintro m fr h' ⟨k, es, hkm, f10, f11, f12, f4, hm, hM, hnd, hfr, hlt⟩
    by_cases hk : k < l.length
    · obtain ⟨i, q, x, hx, e1, hib, e2⟩ := s.at1 hk
      rw [ints_get] at hx
      obtain ⟨a, ha, rfl⟩ : ∃ a, l[k]? = some a ∧ x = .int .i64 a := by
        cases ha : l[k]? with
        | none => rw [ha] at hx; cases hx
        | some a => rw [ha] at hx; exact ⟨a, rfl, by cases hx; rfl⟩
      have htake : l.take (k + 1) = l.take k ++ [a] := by rw [List.take_add_one, ha]; rfl
      have e2' := e2 h' (hfr.get i hib)
      have lk := oLookK_int_ok (z := .int .i64 0) hm hM a .i64
      by_cases hmem : a ∈ l.take k
      · rw [posM_isSome, decide_eq_true hmem] at lk
        simp (disch := omega) only [seqO_eq, thenO_nor, thenO_ret, thenO_ex, gtO_some, bndO_ok, get_set_of, cndX_tmp, ifB_true, ifB_false, ifB_pos, ifB_neg, blkO_eq, blkX_nor, blkX_ret, blkX_ex, Nat.reduceEqDiff, Nat.zero_ne_one, Nat.one_ne_zero, reduceCtorEq, ↓reduceIte, oBin_add, oBin_sub, oBin_eql, oBin_neq, oBin_lss, oBin_leq, oBin_gtr, oBin_geq, oUn_not, oPick_true, oPick_false, oExtract_0, oExtract_1, oExtract_2, oMin_eq, oMax_eq, oFieldAddr_eq, oBuildSlice_1, oBuild_2, oBuildSlice_2, chk_zero, chk_nil, alcO_some, Bool.not_true, Bool.not_false, Option.getD_some, Option.getD_none, Option.isSome_some, Option.isSome_none, Tryb16_3, Tryr16_3, f12, f11, Tryr16_4, f10, e1, e2', Tryr16_5, f4, lk, Tryr16_6, Tryr16_7]
        refine ⟨.nilm, by simp only [seqO_eq, thenO_nor, thenO_ret, thenO_ex, gtO_some, bndO_ok, get_set_of, cndX_tmp, ifB_true, ifB_false, ifB_pos, ifB_neg, blkO_eq, blkX_nor, blkX_ret, blkX_ex, Nat.reduceEqDiff, Nat.zero_ne_one, Nat.one_ne_zero, reduceCtorEq, ↓reduceIte, oBin_add, oBin_sub, oBin_eql, oBin_neq, oBin_lss, oBin_leq, oBin_gtr, oBin_geq, oUn_not, oPick_true, oPick_false, oExtract_0, oExtract_1, oExtract_2, oMin_eq, oMax_eq, oFieldAddr_eq, oBuildSlice_1, oBuild_2, oBuildSlice_2, chk_zero, chk_nil, alcO_some, Bool.not_true, Bool.not_false, Option.getD_some, Option.getD_none, Option.isSome_some, Option.isSome_none], by simp only [seqO_eq, thenO_nor, thenO_ret, thenO_ex, gtO_some, bndO_ok, get_set_of, cndX_tmp, ifB_true, ifB_false, ifB_pos, ifB_neg, blkO_eq, blkX_nor, blkX_ret, blkX_ex, Nat.reduceEqDiff, Nat.zero_ne_one, Nat.one_ne_zero, reduceCtorEq, ↓reduceIte, oBin_add, oBin_sub, oBin_eql, oBin_neq, oBin_lss, oBin_leq, oBin_gtr, oBin_geq, oUn_not, oPick_true, oPick_false, oExtract_0, oExtract_1, oExtract_2, oMin_eq, oMax_eq, oFieldAddr_eq, oBuildSlice_1, oBuild_2, oBuildSlice_2, chk_zero, chk_nil, alcO_some, Bool.not_true, Bool.not_false, Option.getD_some, Option.getD_none, Option.isSome_some, Option.isSome_none], fun hn => ?_, hfr⟩
        have : (l.take k ++ [a]).Nodup := by rw [← htake]; exact hn.sublist (List.take_sublist _ _)
        rw [List.nodup_append] at this
        exact this.2.2 a hmem a (by simp) rfl
      · rw [posM_isSome, decide_eq_false hmem] at lk
        obtain ⟨es', up, hM'⟩ := oMapK_int hm hM a (.int .i64 (k : Int)) .i64
        simp (disch := omega) only [seqO_eq, thenO_nor, thenO_ret, thenO_ex, gtO_some, bndO_ok, get_set_of, cndX_tmp, ifB_true, ifB_false, ifB_pos, ifB_neg, blkO_eq, blkX_nor, blkX_ret, blkX_ex, Nat.reduceEqDiff, Nat.zero_ne_one, Nat.one_ne_zero, reduceCtorEq, ↓reduceIte, oBin_add, oBin_sub, oBin_eql, oBin_neq, oBin_lss, oBin_leq, oBin_gtr, oBin_geq, oUn_not, oPick_true, oPick_false, oExtract_0, oExtract_1, oExtract_2, oMin_eq, oMax_eq, oFieldAddr_eq, oBuildSlice_1, oBuild_2, oBuildSlice_2, chk_zero, chk_nil, alcO_some, Bool.not_true, Bool.not_false, Option.getD_some, Option.getD_none, Option.isSome_some, Option.isSome_none, Tryb16_3, Tryr16_3, f12, f11, Tryr16_4, f10, e1, e2', Tryr16_5, f4, lk, Tryr16_6, Tryr16_8, up, Tryr16_9]
        refine ⟨m - 1, by omega, k + 1, es', by omega, ?_, ?_, ?_, ?_, put_self _ _ _, ?_, ?_, hfr.trans (Fr.put _ _ hb), hlt⟩
        · simp only [seqO_eq, thenO_nor, thenO_ret, thenO_ex, gtO_some, bndO_ok, get_set_of, cndX_tmp, ifB_true, ifB_false, ifB_pos, ifB_neg, blkO_eq, blkX_nor, blkX_ret, blkX_ex, Nat.reduceEqDiff, Nat.zero_ne_one, Nat.one_ne_zero, reduceCtorEq, ↓reduceIte, oBin_add, oBin_sub, oBin_eql, oBin_neq, oBin_lss, oBin_leq, oBin_gtr, oBin_geq, oUn_not, oPick_true, oPick_false, oExtract_0, oExtract_1, oExtract_2, oMin_eq, oMax_eq, oFieldAddr_eq, oBuildSlice_1, oBuild_2, oBuildSlice_2, chk_zero, chk_nil, alcO_some, Bool.not_true, Bool.not_false, Option.getD_some, Option.getD_none, Option.isSome_some, Option.isSome_none, f10]
        · simp only [seqO_eq, thenO_nor, thenO_ret, thenO_ex, gtO_some, bndO_ok, get_set_of, cndX_tmp, ifB_true, ifB_false, ifB_pos, ifB_neg, blkO_eq, blkX_nor, blkX_ret, blkX_ex, Nat.reduceEqDiff, Nat.zero_ne_one, Nat.one_ne_zero, reduceCtorEq, ↓reduceIte, oBin_add, oBin_sub, oBin_eql, oBin_neq, oBin_lss, oBin_leq, oBin_gtr, oBin_geq, oUn_not, oPick_true, oPick_false, oExtract_0, oExtract_1, oExtract_2, oMin_eq, oMax_eq, oFieldAddr_eq, oBuildSlice_1, oBuild_2, oBuildSlice_2, chk_zero, chk_nil, alcO_some, Bool.not_true, Bool.not_false, Option.getD_some, Option.getD_none, Option.isSome_some, Option.isSome_none, f11]
        · simp only [seqO_eq, thenO_nor, thenO_ret, thenO_ex, gtO_some, bndO_ok, get_set_of, cndX_tmp, ifB_true, ifB_false, ifB_pos, ifB_neg, blkO_eq, blkX_nor, blkX_ret, blkX_ex, Nat.reduceEqDiff, Nat.zero_ne_one, Nat.one_ne_zero, reduceCtorEq, ↓reduceIte, oBin_add, oBin_sub, oBin_eql, oBin_neq, oBin_lss, oBin_leq, oBin_gtr, oBin_geq, oUn_not, oPick_true, oPick_false, oExtract_0, oExtract_1, oExtract_2, oMin_eq, oMax_eq, oFieldAddr_eq, oBuildSlice_1, oBuild_2, oBuildSlice_2, chk_zero, chk_nil, alcO_some, Bool.not_true, Bool.not_false, Option.getD_some, Option.getD_none, Option.isSome_some, Option.isSome_none]; rfl
        · simp only [seqO_eq, thenO_nor, thenO_ret, thenO_ex, gtO_some, bndO_ok, get_set_of, cndX_tmp, ifB_true, ifB_false, ifB_pos, ifB_neg, blkO_eq, blkX_nor, blkX_ret, blkX_ex, Nat.reduceEqDiff, Nat.zero_ne_one, Nat.one_ne_zero, reduceCtorEq, ↓reduceIte, oBin_add, oBin_sub, oBin_eql, oBin_neq, oBin_lss, oBin_leq, oBin_gtr, oBin_geq, oUn_not, oPick_true, oPick_false, oExtract_0, oExtract_1, oExtract_2, oMin_eq, oMax_eq, oFieldAddr_eq, oBuildSlice_1, oBuild_2, oBuildSlice_2, chk_zero, chk_nil, alcO_some, Bool.not_true, Bool.not_false, Option.getD_some, Option.getD_none, Option.isSome_some, Option.isSome_none, f4]
        · rw [htake, posM_snoc hmem]; rw [List.length_take, Nat.min_eq_left (by omega)]; exact hM'
        · rw [htake, List.nodup_append]; exact ⟨hnd, by simp, fun x hx' y hy => by rw [List.mem_singleton.1 hy]; rintro rfl; exact hmem hx'⟩
    · have hk' : k = l.length := by omega
      subst hk'
      rw [List.take_length] at hM hnd
      simp (disch := omega) only [seqO_eq, thenO_nor, thenO_ret, thenO_ex, gtO_some, bndO_ok, get_set_of, cndX_tmp, ifB_true, ifB_false, ifB_pos, ifB_neg, blkO_eq, blkX_nor, blkX_ret, blkX_ex, Nat.reduceEqDiff, Nat.zero_ne_one, Nat.one_ne_zero, reduceCtorEq, ↓reduceIte, oBin_add, oBin_sub, oBin_eql, oBin_neq, oBin_lss, oBin_leq, oBin_gtr, oBin_geq, oUn_not, oPick_true, oPick_false, oExtract_0, oExtract_1, oExtract_2, oMin_eq, oMax_eq, oFieldAddr_eq, oBuildSlice_1, oBuild_2, oBuildSlice_2, chk_zero, chk_nil, alcO_some, Bool.not_true, Bool.not_false, Option.getD_some, Option.getD_none, Option.isSome_some, Option.isSome_none, Tryb16_3, Tryr16_3, f12, f11]
      exact ⟨rfl, es, by simp only [seqO_eq, thenO_nor, thenO_ret, thenO_ex, gtO_some, bndO_ok, get_set_of, cndX_tmp, ifB_true, ifB_false, ifB_pos, ifB_neg, blkO_eq, blkX_nor, blkX_ret, blkX_ex, Nat.reduceEqDiff, Nat.zero_ne_one, Nat.one_ne_zero, reduceCtorEq, ↓reduceIte, oBin_add, oBin_sub, oBin_eql, oBin_neq, oBin_lss, oBin_leq, oBin_gtr, oBin_geq, oUn_not, oPick_true, oPick_false, oExtract_0, oExtract_1, oExtract_2, oMin_eq, oMax_eq, oFieldAddr_eq, oBuildSlice_1, oBuild_2, oBuildSlice_2, chk_zero, chk_nil, alcO_some, Bool.not_true, Bool.not_false, Option.getD_some, Option.getD_none, Option.isSome_some, Option.isSome_none, f4], hm, hM, hnd, hfr, hlt⟩
  · rintro fr h' ⟨es, f4, hm, hM, hnd, hfr, hlt⟩
    simp only [seqO_eq, thenO_nor, thenO_ret, thenO_ex, gtO_some, bndO_ok, get_set_of, cndX_tmp, ifB_true, ifB_false, ifB_pos, ifB_neg, blkO_eq, blkX_nor, blkX_ret, blkX_ex, Nat.reduceEqDiff, Nat.zero_ne_one, Nat.one_ne_zero, reduceCtorEq, ↓reduceIte, oBin_add, oBin_sub, oBin_eql, oBin_neq, oBin_lss, oBin_leq, oBin_gtr, oBin_geq, oUn_not, oPick_true, oPick_false, oExtract_0, oExtract_1, oExtract_2, oMin_eq, oMax_eq, oFieldAddr_eq, oBuildSlice_1, oBuild_2, oBuildSlice_2, chk_zero, chk_nil, alcO_some, Bool.not_true, Bool.not_false, Option.getD_some, Option.getD_none, Option.isSome_some, Option.isSome_none, Tryr16_10, f4]
    exact Tells.ret (by simp only [resK, get_set_of, seqO_eq, thenO_nor, thenO_ret, thenO_ex, gtO_some, bndO_ok, get_set_of, cndX_tmp, ifB_true, ifB_false, ifB_pos, ifB_neg, blkO_eq, blkX_nor, blkX_ret, blkX_ex, Nat.reduceEqDiff, Nat.zero_ne_one, Nat.one_ne_zero, reduceCtorEq, ↓reduceIte, oBin_add, oBin_sub, oBin_eql, oBin_neq, oBin_lss, oBin_leq, oBin_gtr, oBin_geq, oUn_not, oPick_true, oPick_false, oExtract_0, oExtract_1, oExtract_2, oMin_eq, oMax_eq, oFieldAddr_eq, oBuildSlice_1, oBuild_2, oBuildSlice_2, chk_zero, chk_nil, alcO_some, Bool.not_true, Bool.not_false, Option.getD_some, Option.getD_none, Option.isSome_some, Option.isSome_none, tupR]; rfl) ⟨hfr, .inl ⟨hnd, h.next, es, rfl, hb, hlt, hm, hM⟩⟩
  · rintro fr h' ⟨y, f2, f3, hnd, hfr⟩
    exact Tells.ret (by simp only [resK, f2, f3, tupR]; rfl) ⟨hfr, .inr ⟨hnd, y, rfl⟩⟩
end Go.Proofs.Ytmlbnkojodkieaa

noncomputable section
namespace Go.Proofs.Ytmlbnkojodkieaa
open Go Go.Proofs Go.Vm
set_option linter.unusedVariables false
set_option maxRecDepth 100000
set_option linter.unusedSimpArgs false
theorem Sl.ints {b : Nat} {h : Hp} {v : V} {l : List Int} (s : Sl b h 1 v l.length (ints l)) {k : Nat} (hk : k < l.length) : ∃ i q, (∀ h', oIdxS 1 v (.int .i64 (k : Int)) h' = .ok (.ptr i q) h') ∧ i.nat < b ∧ ∀ h', h'.get i = h.get i → oLoad1 (.ptr i q) h' = .ok (.int .i64 l[k]) h' := by
  obtain ⟨i, q, x, hx, e1, hib, e2⟩ := s.at1 hk
  rw [ints_get, List.getElem?_eq_getElem hk] at hx
  cases hx
  exact ⟨i, q, e1, hib, e2⟩
def items (l : List (Int × Int)) : List V := l.flatMap fun p => [V.int .i64 p.1, V.int .i64 p.2]
theorem items_length (l : List (Int × Int)) : (items l).length = l.length * 2 := by
  induction l with
  | nil => rfl
  | cons p l ih => simp only [items, List.flatMap_cons, List.length_append, List.length_cons, List.length_nil] at ih ⊢; rw [ih]; omega
theorem items_append (l m : List (Int × Int)) : items (l ++ m) = items l ++ items m := by simp [items]
theorem items_drop (l : List (Int × Int)) {k : Nat} (hk : k < l.length) : (items l).drop (k * 2) = V.int .i64 l[k].1 :: V.int .i64 l[k].2 :: items (l.drop (k + 1)) := by
  induction l generalizing k with
  | nil => simp at hk
  | cons p l ih =>
    cases k with
    | zero => simp [items]
    | succ k =>
      have : (items (p :: l)) = V.int .i64 p.1 :: V.int .i64 p.2 :: items l := by simp [items]
      rw [this, show (k + 1) * 2 = k * 2 + 1 + 1 by omega, List.drop_succ_cons, List.drop_succ_cons, ih (by simpa using hk)]
      simp
theorem items_get0 (l : List (Int × Int)) {k : Nat} (hk : k < l.length) : (items l)[k * 2 + 0]? = some (.int .i64 l[k].1) := by
  rw [← List.getElem?_drop, items_drop l hk]; rfl
theorem items_get1 (l : List (Int × Int)) {k : Nat} (hk : k < l.length) : (items l)[k * 2 + 1]? = some (.int .i64 l[k].2) := by
  rw [← List.getElem?_drop, items_drop l hk]; rfl
theorem Sl.items {b : Nat} {h : Hp} {v : V} {l : List (Int × Int)} (s : Sl b h 2 v l.length (items l)) {k : Nat} (hk : k < l.length) : ∃ i q, (∀ h', oIdxS 2 v (.int .i64 (k : Int)) h' = .ok (.ptr i q) h') ∧ i.nat < b ∧
    ∀ h', h'.get i = h.get i → oLoad1 (.ptr i (q + 0)) h' = .ok (.int .i64 l[k].1) h' ∧ oLoad1 (.ptr i (q + 1)) h' = .ok (.int .i64 l[k].2) h' ∧ oLoadN 2 (.ptr i q) h' = .ok (.agg (.cons (.int .i64 l[k].1) (.cons (.int .i64 l[k].2) .nil))) h' := by
  obtain ⟨i, q, e1, hib, e2, e3⟩ := s.atN hk
  refine ⟨i, q, e1, hib, fun h' he => ⟨e2 h' he 0 _ (by omega) (items_get0 l hk), e2 h' he 1 _ (by omega) (items_get1 l hk), ?_⟩⟩
  rw [e3 h' he, items_drop l hk]
  rfl

/-! ### Ints, Items -/
theorem ints_ok {b : Nat} {h : Hp} {v u : V} {l m : List Int} (s : Sl b h 1 v l.length (ints l)) (t : Sl b h 1 u m.length (ints m)) (hl : l.length < 1000) :
    TryF9 [v, u] h = .ok (.bool (decide (l = m))) h := by
  rw [TryF9_eq]
  have : Tells Try.prog [.tmp 4] (fun r h' => r = .bool (decide (l = m)) ∧ h' = h) (Tryd9 (T.set (some u) (Pos.of 1) (T.set (some v) (Pos.of 0) T.nil)) h) := by
    by_cases hn : l.length = m.length
    · simp (disch := omega) only [seqO_eq, thenO_nor, thenO_ret, thenO_ex, gtO_some, bndO_ok, get_set_of, cndX_tmp, ifB_true, ifB_false, ifB_pos, ifB_neg, blkO_eq, blkX_nor, blkX_ret, blkX_ex, Nat.reduceEqDiff, Nat.zero_ne_one, Nat.one_ne_zero, reduceCtorEq, ↓reduceIte, oBin_add, oBin_sub, oBin_eql, oBin_neq, oBin_lss, oBin_leq, oBin_gtr, oBin_geq, oUn_not, oPick_true, oPick_false, oExtract_0, oExtract_1, oExtract_2, oMin_eq, oMax_eq, oFieldAddr_eq, oBuildSlice_1, oBuild_2, oBuildSlice_2, chk_zero, chk_nil, bumpH_zero, alcO_some, Bool.not_true, Bool.not_false, Option.getD_some, Option.getD_none, Option.isSome_some, Option.isSome_none, Tryd9, Tryr9_0, Tryr9_1, s.length, t.length, Tryr9_3]
      refine Oc.then (loop_rule (n := l.length) (fun k' fr h' => ∃ k, k + k' = l.length ∧ fr.get (Pos.of 0) = some v ∧ fr.get (Pos.of 1) = some u ∧ fr.get (Pos.of 5) = some (.int .i64 (k : Int)) ∧ h' = h ∧ l.take k = m.take k)
        (A := fun fr h' => h' = h ∧ l = m) (B := fun fr h' => fr.get (Pos.of 4) = some (.bool false) ∧ h' = h ∧ l ≠ m) (by rw [lf_eq]; omega) ?_ ?_) ?_ ?_
      · exact ⟨0, by omega, by simp only [seqO_eq, thenO_nor, thenO_ret, thenO_ex, gtO_some, bndO_ok, get_set_of, cndX_tmp, ifB_true, ifB_false, ifB_pos, ifB_neg, blkO_eq, blkX_nor, blkX_ret, blkX_ex, Nat.reduceEqDiff, Nat.zero_ne_one, Nat.one_ne_zero, reduceCtorEq, ↓reduceIte, oBin_add, oBin_sub, oBin_eql, oBin_neq, oBin_lss, oBin_leq, oBin_gtr, oBin_geq, oUn_not, oPick_true, oPick_false, oExtract_0, oExtract_1, oExtract_2, oMin_eq, oMax_eq, oFieldAddr_eq, oBuildSlice_1, oBuild_2, oBuildSlice_2, chk_zero, chk_nil, bumpH_zero, alcO_some, Bool.not_true, Bool.not_false, Option.getD_some, Option.getD_none, Option.isSome_some, Option.isSome_none], by simp only [seqO_eq, thenO_nor, thenO_ret, thenO_ex, gtO_some, bndO_ok, get_set_of, cndX_tmp, ifB_true, ifB_false, ifB_pos, ifB_neg, blkO_eq, blkX_nor, blkX_ret, blkX_ex, Nat.reduceEqDiff, Nat.zero_ne_one, Nat.one_ne_zero, reduceCtorEq, ↓reduceIte, oBin_add, oBin_sub, oBin_eql, oBin_neq, oBin_lss, oBin_leq, oBin_gtr, oBin_geq, oUn_not, oPick_true, oPick_false, oExtract_0, oExtract_1, oExtract_2, oMin_eq, oMax_eq, oFieldAddr_eq, oBuildSlice_1, oBuild_2, oBuildSlice_2, chk_zero, chk_nil, bumpH_zero, alcO_some, Bool.not_true, Bool.not_false, Option.getD_some, Option.getD_none, Option.isSome_some, Option.isSome_none], by simp only [seqO_eq, thenO_nor, thenO_ret, thenO_ex, gtO_some, bndO_ok, get_set_of, cndX_tmp, ifB_true, ifB_false, ifB_pos, ifB_neg, blkO_eq, blkX_nor, blkX_ret, blkX_ex, Nat.reduceEqDiff, Nat.zero_ne_one, Nat.one_ne_zero, reduceCtorEq, ↓reduceIte, oBin_add, oBin_sub, oBin_eql, oBin_neq, oBin_lss, oBin_leq, oBin_gtr, oBin_geq, oUn_not, oPick_true, oPick_false, oExtract_0, oExtract_1, oExtract_2, oMin_eq, oMax_eq, oFieldAddr_eq, oBuildSlice_1, oBuild_2, oBuildSlice_2, chk_zero, chk_nil, bumpH_zero, alcO_some, Bool.not_true, Bool.not_false, Option.getD_some, Option.getD_none, Option.isSome_some, Option.isSome_none]; rfl, rfl, by simp⟩
      · rintro k' fr h' ⟨k, hkk, f0, f1, f5, rfl, htk⟩
        by_cases hk : k < l.length
        · obtain ⟨i, q, e1, hib, e2⟩ := Sl.ints s hk
          obtain ⟨j, p, e3, hjb, e4⟩ := Sl.ints t (k := k) (by omega)
          have e2' := e2 h' rfl
          have e4' := e4 h' rfl
          by_cases hx : l[k] = m[k]
          · simp (disch := omega) only [seqO_eq, thenO_nor, thenO_ret, thenO_ex, gtO_some, bndO_ok, get_set_of, cndX_tmp, ifB_true, ifB_false, ifB_pos, ifB_neg, blkO_eq, blkX_nor, blkX_ret, blkX_ex, Nat.reduceEqDiff, Nat.zero_ne_one, Nat.one_ne_zero, reduceCtorEq, ↓reduceIte, oBin_add, oBin_sub, oBin_eql, oBin_neq, oBin_lss, oBin_leq, oBin_gtr, oBin_geq, oUn_not, oPick_true, oPick_false, oExtract_0, oExtract_1, oExtract_2, oMin_eq, oMax_eq, oFieldAddr_eq, oBuildSlice_1, oBuild_2, oBuildSlice_2, chk_zero, chk_nil, bumpH_zero, alcO_some, Bool.not_true, Bool.not_false, Option.getD_some, Option.getD_none, Option.isSome_some, Option.isSome_none, Tryb9_4, Tryr9_4, f5, f0, s.length, Tryr9_6, e1, e2', f1, e3, e4', Tryr9_5]
            refine ⟨k' - 1, by omega, k + 1, by omega, ?_, ?_, ?_, rfl, ?_⟩
            · simp only [seqO_eq, thenO_nor, thenO_ret, thenO_ex, gtO_some, bndO_ok, get_set_of, cndX_tmp, ifB_true, ifB_false, ifB_pos, ifB_neg, blkO_eq, blkX_nor, blkX_ret, blkX_ex, Nat.reduceEqDiff, Nat.zero_ne_one, Nat.one_ne_zero, reduceCtorEq, ↓reduceIte, oBin_add, oBin_sub, oBin_eql, oBin_neq, oBin_lss, oBin_leq, oBin_gtr, oBin_geq, oUn_not, oPick_true, oPick_false, oExtract_0, oExtract_1, oExtract_2, oMin_eq, oMax_eq, oFieldAddr_eq, oBuildSlice_1, oBuild_2, oBuildSlice_2, chk_zero, chk_nil, bumpH_zero, alcO_some, Bool.not_true, Bool.not_false, Option.getD_some, Option.getD_none, Option.isSome_some, Option.isSome_none, f0]
            · simp only [seqO_eq, thenO_nor, thenO_ret, thenO_ex, gtO_some, bndO_ok, get_set_of, cndX_tmp, ifB_true, ifB_false, ifB_pos, ifB_neg, blkO_eq, blkX_nor, blkX_ret, blkX_ex, Nat.reduceEqDiff, Nat.zero_ne_one, Nat.one_ne_zero, reduceCtorEq, ↓reduceIte, oBin_add, oBin_sub, oBin_eql, oBin_neq, oBin_lss, oBin_leq, oBin_gtr, oBin_geq, oUn_not, oPick_true, oPick_false, oExtract_0, oExtract_1, oExtract_2, oMin_eq, oMax_eq, oFieldAddr_eq, oBuildSlice_1, oBuild_2, oBuildSlice_2, chk_zero, chk_nil, bumpH_zero, alcO_some, Bool.not_true, Bool.not_false, Option.getD_some, Option.getD_none, Option.isSome_some, Option.isSome_none, f1]
            · simp only [seqO_eq, thenO_nor, thenO_ret, thenO_ex, gtO_some, bndO_ok, get_set_of, cndX_tmp, ifB_true, ifB_false, ifB_pos, ifB_neg, blkO_eq, blkX_nor, blkX_ret, blkX_ex, Nat.reduceEqDiff, Nat.zero_ne_one, Nat.one_ne_zero, reduceCtorEq, ↓reduceIte, oBin_add, oBin_sub, oBin_eql, oBin_neq, oBin_lss, oBin_leq, oBin_gtr, oBin_geq, oUn_not, oPick_true, oPick_false, oExtract_0, oExtract_1, oExtract_2, oMin_eq, oMax_eq, oFieldAddr_eq, oBuildSlice_1, oBuild_2, oBuildSlice_2, chk_zero, chk_nil, bumpH_zero, alcO_some, Bool.not_true, Bool.not_false, Option.getD_some, Option.getD_none, Option.isSome_some, Option.isSome_none]; rfl
            · rw [List.take_add_one, List.take_add_one, htk, List.getElem?_eq_getElem hk, List.getElem?_eq_getElem (by omega), hx]
          · simp (disch := omega) only [seqO_eq, thenO_nor, thenO_ret, thenO_ex, gtO_some, bndO_ok, get_set_of, cndX_tmp, ifB_true, ifB_false, ifB_pos, ifB_neg, blkO_eq, blkX_nor, blkX_ret, blkX_ex, Nat.reduceEqDiff, Nat.zero_ne_one, Nat.one_ne_zero, reduceCtorEq, ↓reduceIte, oBin_add, oBin_sub, oBin_eql, oBin_neq, oBin_lss, oBin_leq, oBin_gtr, oBin_geq, oUn_not, oPick_true, oPick_false, oExtract_0, oExtract_1, oExtract_2, oMin_eq, oMax_eq, oFieldAddr_eq, oBuildSlice_1, oBuild_2, oBuildSlice_2, chk_zero, chk_nil, bumpH_zero, alcO_some, Bool.not_true, Bool.not_false, Option.getD_some, Option.getD_none, Option.isSome_some, Option.isSome_none, Tryb9_4, Tryr9_4, f5, f0, s.length, Tryr9_6, e1, e2', f1, e3, e4', Tryr9_7]
            exact ⟨by simp only [seqO_eq, thenO_nor, thenO_ret, thenO_ex, gtO_some, bndO_ok, get_set_of, cndX_tmp, ifB_true, ifB_false, ifB_pos, ifB_neg, blkO_eq, blkX_nor, blkX_ret, blkX_ex, Nat.reduceEqDiff, Nat.zero_ne_one, Nat.one_ne_zero, reduceCtorEq, ↓reduceIte, oBin_add, oBin_sub, oBin_eql, oBin_neq, oBin_lss, oBin_leq, oBin_gtr, oBin_geq, oUn_not, oPick_true, oPick_false, oExtract_0, oExtract_1, oExtract_2, oMin_eq, oMax_eq, oFieldAddr_eq, oBuildSlice_1, oBuild_2, oBuildSlice_2, chk_zero, chk_nil, bumpH_zero, alcO_some, Bool.not_true, Bool.not_false, Option.getD_some, Option.getD_none, Option.isSome_some, Option.isSome_none], rfl, fun e => hx (by subst e; rfl)⟩
        · have hk' : k = l.length := by omega
          subst hk'
          simp (disch := omega) only [seqO_eq, thenO_nor, thenO_ret, thenO_ex, gtO_some, bndO_ok, get_set_of, cndX_tmp, ifB_true, ifB_false, ifB_pos, ifB_neg, blkO_eq, blkX_nor, blkX_ret, blkX_ex, Nat.reduceEqDiff, Nat.zero_ne_one, Nat.one_ne_zero, reduceCtorEq, ↓reduceIte, oBin_add, oBin_sub, oBin_eql, oBin_neq, oBin_lss, oBin_leq, oBin_gtr, oBin_geq, oUn_not, oPick_true, oPick_false, oExtract_0, oExtract_1, oExtract_2, oMin_eq, oMax_eq, oFieldAddr_eq, oBuildSlice_1, oBuild_2, oBuildSlice_2, chk_zero, chk_nil, bumpH_zero, alcO_some, Bool.not_true, Bool.not_false, Option.getD_some, Option.getD_none, Option.isSome_some, Option.isSome_none, Tryb9_4, Tryr9_4, f5, f0, s.length]
          rw [List.take_length, hn, List.take_length] at htk
          exact ⟨rfl, rfl, htk⟩
      · rintro fr h' ⟨rfl, rfl⟩
        simp only [seqO_eq, thenO_nor, thenO_ret, thenO_ex, gtO_some, bndO_ok, get_set_of, cndX_tmp, ifB_true, ifB_false, ifB_pos, ifB_neg, blkO_eq, blkX_nor, blkX_ret, blkX_ex, Nat.reduceEqDiff, Nat.zero_ne_one, Nat.one_ne_zero, reduceCtorEq, ↓reduceIte, oBin_add, oBin_sub, oBin_eql, oBin_neq, oBin_lss, oBin_leq, oBin_gtr, oBin_geq, oUn_not, oPick_true, oPick_false, oExtract_0, oExtract_1, oExtract_2, oMin_eq, oMax_eq, oFieldAddr_eq, oBuildSlice_1, oBuild_2, oBuildSlice_2, chk_zero, chk_nil, bumpH_zero, alcO_some, Bool.not_true, Bool.not_false, Option.getD_some, Option.getD_none, Option.isSome_some, Option.isSome_none, Tryr9_8]
        exact Tells.ret (by simp only [resK, get_set_of, seqO_eq, thenO_nor, thenO_ret, thenO_ex, gtO_some, bndO_ok, get_set_of, cndX_tmp, ifB_true, ifB_false, ifB_pos, ifB_neg, blkO_eq, blkX_nor, blkX_ret, blkX_ex, Nat.reduceEqDiff, Nat.zero_ne_one, Nat.one_ne_zero, reduceCtorEq, ↓reduceIte, oBin_add, oBin_sub, oBin_eql, oBin_neq, oBin_lss, oBin_leq, oBin_gtr, oBin_geq, oUn_not, oPick_true, oPick_false, oExtract_0, oExtract_1, oExtract_2, oMin_eq, oMax_eq, oFieldAddr_eq, oBuildSlice_1, oBuild_2, oBuildSlice_2, chk_zero, chk_nil, bumpH_zero, alcO_some, Bool.not_true, Bool.not_false, Option.getD_some, Option.getD_none, Option.isSome_some, Option.isSome_none, tupR]; rfl) ⟨by simp, rfl⟩
      · rintro fr h' ⟨f4, rfl, hne⟩
        exact Tells.ret (by simp only [resK, f4, tupR]; rfl) ⟨by rw [decide_eq_false hne], rfl⟩
    · simp (disch := omega) only [seqO_eq, thenO_nor, thenO_ret, thenO_ex, gtO_some, bndO_ok, get_set_of, cndX_tmp, ifB_true, ifB_false, ifB_pos, ifB_neg, blkO_eq, blkX_nor, blkX_ret, blkX_ex, Nat.reduceEqDiff, Nat.zero_ne_one, Nat.one_ne_zero, reduceCtorEq, ↓reduceIte, oBin_add, oBin_sub, oBin_eql, oBin_neq, oBin_lss, oBin_leq, oBin_gtr, oBin_geq, oUn_not, oPick_true, oPick_false, oExtract_0, oExtract_1, oExtract_2, oMin_eq, oMax_eq, oFieldAddr_eq, oBuildSlice_1, oBuild_2, oBuildSlice_2, chk_zero, chk_nil, bumpH_zero, alcO_some, Bool.not_true, Bool.not_false, Option.getD_some, Option.getD_none, Option.isSome_some, Option.isSome_none, Tryd9, Tryr9_0, Tryr9_1, s.length, t.length, Tryr9_2]
      exact Tells.ret (by simp only [resK, get_set_of, seqO_eq, thenO_nor, thenO_ret, thenO_ex, gtO_some, bndO_ok, get_set_of, cndX_tmp, ifB_true, ifB_false, ifB_pos, ifB_neg, blkO_eq, blkX_nor, blkX_ret, blkX_ex, Nat.reduceEqDiff, Nat.zero_ne_one, Nat.one_ne_zero, reduceCtorEq, ↓reduceIte, oBin_add, oBin_sub, oBin_eql, oBin_neq, oBin_lss, oBin_leq, oBin_gtr, oBin_geq, oUn_not, oPick_true, oPick_false, oExtract_0, oExtract_1, oExtract_2, oMin_eq, oMax_eq, oFieldAddr_eq, oBuildSlice_1, oBuild_2, oBuildSlice_2, chk_zero, chk_nil, bumpH_zero, alcO_some, Bool.not_true, Bool.not_false, Option.getD_some, Option.getD_none, Option.isSome_some, Option.isSome_none, tupR]; rfl) ⟨by rw [decide_eq_false (fun e => hn (by rw [e]))], rfl⟩
  obtain ⟨r, h', e, rfl, rfl⟩ := this
  exact e
end Go.Proofs.Ytmlbnkojodkieaa

noncomputable section
namespace Go.Proofs.Ytmlbnkojodkieaa
open Go Go.Proofs Go.Vm
set_option linter.unusedVariables false
set_option maxRecDepth 100000
set_option linter.unusedSimpArgs false
/-! ### the plain answer -/
def keepGo (now : List Int) : List Int → Int → List Int × List Int
  | [], _ => ([], [])
  | x :: l, last => (match now.idxOf? x with
    | some i => if last < (i : Int) then ((keepGo now l i).1, x :: (keepGo now l i).2) else (x :: (keepGo now l last).1, (keepGo now l last).2)
    | none => (x :: (keepGo now l last).1, (keepGo now l last).2))
def addGo (kept : List Int) : List Int → Nat → List (Int × Int)
  | [], _ => []
  | x :: l, i => if x ∈ kept then addGo kept l (i + 1) else (x, (i : Int)) :: addGo kept l (i + 1)
def diffM (old now : List Int) : List Int × List (Int × Int) :=
  if old.Nodup ∧ now.Nodup then ((keepGo now old (-1)).1, addGo (keepGo now old (-1)).2 now 0) else ([], [])
theorem keepGo_len (now : List Int) : ∀ (l : List Int) (last : Int), (keepGo now l last).1.length ≤ l.length
  | [], _ => Nat.le_refl _
  | x :: l, last => by
    unfold keepGo
    split
    · split
      · have := keepGo_len now l ‹Nat›
        simp only [List.length_cons]; omega
      · have := keepGo_len now l last
        simp only [List.length_cons]; omega
    · have := keepGo_len now l last
      simp only [List.length_cons]; omega
theorem addGo_len (kept : List Int) : ∀ (l : List Int) (i : Nat), (addGo kept l i).length ≤ l.length
  | [], _ => Nat.le_refl _
  | x :: l, i => by
    unfold addGo
    have := addGo_len kept l (i + 1)
    split <;> simp only [List.length_cons] <;> omega
/-- the set of what is kept -/
def keptM (l : List Int) : Int → Option V := fun x => if x ∈ l then some (.bool true) else none
theorem keptM_snoc (l : List Int) (a : Int) : keptM (l ++ [a]) = fun x => if x = a then some (.bool true) else keptM l x := by
  funext x
  simp only [keptM, List.mem_append, List.mem_singleton]
  by_cases e : x = a <;> simp [e]
theorem posM_some {l : List Int} {a : Int} {i : Nat} (h : l.idxOf? a = some i) : posM l a = some (.int .i64 (i : Int)) := by simp [posM, h]
theorem posM_none {l : List Int} {a : Int} (h : l.idxOf? a = none) : posM l a = none := by simp [posM, h]
def DiffQ (old now : List Int) (b : Nat) (h : Hp) (r : V) (h' : Hp) : Prop :=
  Fr b h h' ∧ ∃ g a, r = .tuple (.cons g (.cons a .nil)) ∧ Sl h'.next.nat h' 1 g (diffM old now).1.length (ints (diffM old now).1) ∧ Sl h'.next.nat h' 2 a (diffM old now).2.length (items (diffM old now).2)
theorem sl_nil (b : Nat) (h : Hp) (sz : Nat) : Sl b h sz .nils 0 [] := ⟨by simp, .inl ⟨rfl, .inl rfl⟩⟩
theorem diff_ok {b : Nat} {h : Hp} {v u : V} {old now : List Int} (s : Sl b h 1 v old.length (ints old)) (t : Sl b h 1 u now.length (ints now)) (hb : b ≤ h.next.nat) (hl : old.length < 1000) (hm : now.length < 1000) :
    ∃ r h', TryF8 [v, u] h = .ok r h' ∧ DiffQ old now b h r h' := by
  rw [TryF8_eq]
  show Tells Try.prog _ (DiffQ old now b h) _
  obtain ⟨r1, h1, p1, fr1, q1⟩ := places_ok s hb hl
  obtain ⟨r2, h2, p2, fr2, q2⟩ := places_ok (t.fr fr1) (Nat.le_trans hb fr1.next) hm
  have hno : ∀ fr, ¬ (old.Nodup ∧ now.Nodup) → Tells Try.prog [.tmp 4, .tmp 5] (DiffQ old now b h) (Out.ret (T.set (some .nils) (Pos.of 5) (T.set (some .nils) (Pos.of 4) fr)) h2) := fun fr hn => by
    refine Tells.ret (by simp only [resK, get_set_of, seqO_eq, thenO_nor, thenO_ret, thenO_ex, gtO_some, bndO_ok, get_set_of, cndX_tmp, ifB_true, ifB_false, ifB_pos, ifB_neg, blkO_eq, blkX_nor, blkX_ret, blkX_ex, Nat.reduceEqDiff, Nat.zero_ne_one, Nat.one_ne_zero, reduceCtorEq, ↓reduceIte, oBin_add, oBin_sub, oBin_eql, oBin_neq, oBin_lss, oBin_leq, oBin_gtr, oBin_geq, oUn_not, oPick_true, oPick_false, oExtract_0, oExtract_1, oExtract_2, oMin_eq, oMax_eq, oFieldAddr_eq, oBuildSlice_1, oBuild_2, oBuildSlice_2, chk_zero, chk_nil, bumpH_zero, alcO_some, Bool.not_true, Bool.not_false, Option.getD_some, Option.getD_none, Option.isSome_some, Option.isSome_none, tupR]; rfl) ⟨fr1.trans fr2, .nils, .nils, rfl, ?_, ?_⟩
    · rw [diffM, if_neg hn]; exact sl_nil _ _ _
    · rw [diffM, if_neg hn]; exact sl_nil _ _ _
  rcases q1 with ⟨nd1, m1, es1, rfl, -⟩ | ⟨nd1, y, rfl⟩
  · rcases q2 with ⟨nd2, mn, es, rfl, hmn1, hmn2, hmn, hMn⟩ | ⟨nd2, y, rfl⟩
    · simp (disch := omega) only [seqO_eq, thenO_nor, thenO_ret, thenO_ex, gtO_some, bndO_ok, get_set_of, cndX_tmp, ifB_true, ifB_false, ifB_pos, ifB_neg, blkO_eq, blkX_nor, blkX_ret, blkX_ex, Nat.reduceEqDiff, Nat.zero_ne_one, Nat.one_ne_zero, reduceCtorEq, ↓reduceIte, oBin_add, oBin_sub, oBin_eql, oBin_neq, oBin_lss, oBin_leq, oBin_gtr, oBin_geq, oUn_not, oPick_true, oPick_false, oExtract_0, oExtract_1, oExtract_2, oMin_eq, oMax_eq, oFieldAddr_eq, oBuildSlice_1, oBuild_2, oBuildSlice_2, chk_zero, chk_nil, bumpH_zero, alcO_some, Bool.not_true, Bool.not_false, Option.getD_some, Option.getD_none, Option.isSome_some, Option.isSome_none, Tryd8, Tryr8_0, Tryr8_1, Tryr8_2, p1, p2, Tryr8_3, Tryr8_5, oMakeMap, Tryr8_6, Tryr8_7, s.length]
      have hG : diffM old now = ((keepGo now old (-1)).1, addGo (keepGo now old (-1)).2 now 0) := by rw [diffM, if_pos ⟨nd1, nd2⟩]
      have fr3 : Fr b h (h2.new (.map [])) := (fr1.trans fr2).trans (Fr.new _ (by have := fr1.next; have := fr2.next; omega))
      have hb2 : b ≤ h2.next.nat := by have := fr1.next; have := fr2.next; omega
      refine Oc.then (loop_rule (n := old.length) (fun m fr h' => ∃ (k : Nat) (last : Int) (g : V) (G0 K0 : List Int) (ek : List (V × V)), k + m = old.length ∧ fr.get (Pos.of 35) = some v ∧ fr.get (Pos.of 36) = some (.int .i64 (old.length : Int)) ∧ fr.get (Pos.of 37) = some (.int .i64 (k : Int)) ∧
          fr.get (Pos.of 8) = some (.map mn) ∧ fr.get (Pos.of 10) = some (.map h2.next) ∧ fr.get (Pos.of 11) = some (.int .i64 last) ∧ fr.get (Pos.of 4) = some g ∧ fr.get (Pos.of 5) = some .nils ∧ fr.get (Pos.of 1) = some u ∧
          h'.get mn = some (.map es) ∧ h'.get h2.next = some (.map ek) ∧ MapI ek (keptM K0) ∧ Own (h2.next.nat + 1) h' 1 g G0.length (ints G0) ∧ Fr b h h' ∧ h2.next.nat + 1 ≤ h'.next.nat ∧
          G0.length ≤ k ∧ G0 ++ (keepGo now (old.drop k) last).1 = (keepGo now old (-1)).1 ∧ K0 ++ (keepGo now (old.drop k) last).2 = (keepGo now old (-1)).2)
        (A := fun fr h' => ∃ (g : V) (ek : List (V × V)), fr.get (Pos.of 10) = some (.map h2.next) ∧ fr.get (Pos.of 4) = some g ∧ fr.get (Pos.of 5) = some .nils ∧ fr.get (Pos.of 1) = some u ∧
          h'.get h2.next = some (.map ek) ∧ MapI ek (keptM (keepGo now old (-1)).2) ∧ Own (h2.next.nat + 1) h' 1 g (keepGo now old (-1)).1.length (ints (keepGo now old (-1)).1) ∧ Fr b h h' ∧ h2.next.nat + 1 ≤ h'.next.nat)
        (B := fun _ _ => False) (by rw [lf_eq]; omega) ?_ ?_) ?_ ?_
      · refine ⟨0, -1, .nils, [], [], [], by omega, ?_, ?_, ?_, ?_, ?_, ?_, ?_, ?_, ?_, ?_, new_self _ _, ?_, Own.nil _ _ _, fr3, by rw [new_next_nat]; omega, by simp, by simp, by simp⟩
        all_goals first | (simp only [seqO_eq, thenO_nor, thenO_ret, thenO_ex, gtO_some, bndO_ok, get_set_of, cndX_tmp, ifB_true, ifB_false, ifB_pos, ifB_neg, blkO_eq, blkX_nor, blkX_ret, blkX_ex, Nat.reduceEqDiff, Nat.zero_ne_one, Nat.one_ne_zero, reduceCtorEq, ↓reduceIte, oBin_add, oBin_sub, oBin_eql, oBin_neq, oBin_lss, oBin_leq, oBin_gtr, oBin_geq, oUn_not, oPick_true, oPick_false, oExtract_0, oExtract_1, oExtract_2, oMin_eq, oMax_eq, oFieldAddr_eq, oBuildSlice_1, oBuild_2, oBuildSlice_2, chk_zero, chk_nil, bumpH_zero, alcO_some, Bool.not_true, Bool.not_false, Option.getD_some, Option.getD_none, Option.isSome_some, Option.isSome_none]; done) | skip
        · simp only [seqO_eq, thenO_nor, thenO_ret, thenO_ex, gtO_some, bndO_ok, get_set_of, cndX_tmp, ifB_true, ifB_false, ifB_pos, ifB_neg, blkO_eq, blkX_nor, blkX_ret, blkX_ex, Nat.reduceEqDiff, Nat.zero_ne_one, Nat.one_ne_zero, reduceCtorEq, ↓reduceIte, oBin_add, oBin_sub, oBin_eql, oBin_neq, oBin_lss, oBin_leq, oBin_gtr, oBin_geq, oUn_not, oPick_true, oPick_false, oExtract_0, oExtract_1, oExtract_2, oMin_eq, oMax_eq, oFieldAddr_eq, oBuildSlice_1, oBuild_2, oBuildSlice_2, chk_zero, chk_nil, bumpH_zero, alcO_some, Bool.not_true, Bool.not_false, Option.getD_some, Option.getD_none, Option.isSome_some, Option.isSome_none]; rfl
        · rw [new_ne _ (by omega)]; exact hmn
        · exact MapI.nil
      · rintro m fr h' ⟨k, last, g, G0, K0, ek, hkm, f35, f36, f37, f8, f10, f11, f4, f5, f1, hn, hk2, hK, ow, frh, hnx, hGl, eG, eK⟩
        by_cases hk : k < old.length
        · obtain ⟨i, q, e1, hib, e2⟩ := Sl.ints s hk
          have e2' := e2 h' (frh.get i hib)
          have hd : old.drop k = old[k] :: old.drop (k + 1) := List.drop_eq_getElem_cons hk
          generalize old[k] = x at *
          have lk := oLookK_int_ok (z := .int .i64 0) hn hMn x .i64
          rw [hd] at eG eK
          -- what goes
          have gone : (keepGo now (x :: old.drop (k + 1)) last).1 = x :: (keepGo now (old.drop (k + 1)) last).1 → (keepGo now (x :: old.drop (k + 1)) last).2 = (keepGo now (old.drop (k + 1)) last).2 →
              ∃ v' h'', oAppend 1 8 g (.slice h'.next 0 1 (.kn 1)) (h'.new (.cells true [.int .i64 x])) = .ok v' h'' ∧ Own (h2.next.nat + 1) h'' 1 v' (G0 ++ [x]).length (ints (G0 ++ [x])) ∧ Fr (h2.next.nat + 1) h' h'' ∧
                (G0 ++ [x]).length ≤ k + 1 ∧ (G0 ++ [x]) ++ (keepGo now (old.drop (k + 1)) last).1 = (keepGo now old (-1)).1 ∧ K0 ++ (keepGo now (old.drop (k + 1)) last).2 = (keepGo now old (-1)).2 := fun g1 g2 => by
            obtain ⟨v', h'', a1, a2, a3⟩ := append_own (bt := 8) (new := [.int .i64 x]) ow hnx rfl (by omega)
            refine ⟨v', h'', a1, by rw [ints_append, List.length_append]; exact a2, a3, by simp; omega, by rw [← eG, g1]; simp, by rw [← eK, g2]⟩
          cases hi : now.idxOf? x with
          | none =>
            rw [posM_none hi] at lk
            obtain ⟨v', h'', a1, a2, a3, a4, a5, a6⟩ := gone (by rw [keepGo, hi]) (by rw [keepGo, hi])
            simp (disch := omega) only [seqO_eq, thenO_nor, thenO_ret, thenO_ex, gtO_some, bndO_ok, get_set_of, cndX_tmp, ifB_true, ifB_false, ifB_pos, ifB_neg, blkO_eq, blkX_nor, blkX_ret, blkX_ex, Nat.reduceEqDiff, Nat.zero_ne_one, Nat.one_ne_zero, reduceCtorEq, ↓reduceIte, oBin_add, oBin_sub, oBin_eql, oBin_neq, oBin_lss, oBin_leq, oBin_gtr, oBin_geq, oUn_not, oPick_true, oPick_false, oExtract_0, oExtract_1, oExtract_2, oMin_eq, oMax_eq, oFieldAddr_eq, oBuildSlice_1, oBuild_2, oBuildSlice_2, chk_zero, chk_nil, bumpH_zero, alcO_some, Bool.not_true, Bool.not_false, Option.getD_some, Option.getD_none, Option.isSome_some, Option.isSome_none, Tryb8_8, Tryr8_8, f37, f36, Tryr8_9, f35, e1, e2', Tryr8_10, f8, lk, Tryr8_11, Tryr8_13, f4, a1, Tryr8_14]
            refine ⟨m - 1, by omega, k + 1, last, v', G0 ++ [x], K0, ek, by omega, ?_, ?_, ?_, ?_, ?_, ?_, ?_, ?_, ?_, ?_, ?_, hK, a2, frh.trans (a3.le (by omega)), by have := a3.next; omega, a4, a5, a6⟩
            all_goals first | (simp only [seqO_eq, thenO_nor, thenO_ret, thenO_ex, gtO_some, bndO_ok, get_set_of, cndX_tmp, ifB_true, ifB_false, ifB_pos, ifB_neg, blkO_eq, blkX_nor, blkX_ret, blkX_ex, Nat.reduceEqDiff, Nat.zero_ne_one, Nat.one_ne_zero, reduceCtorEq, ↓reduceIte, oBin_add, oBin_sub, oBin_eql, oBin_neq, oBin_lss, oBin_leq, oBin_gtr, oBin_geq, oUn_not, oPick_true, oPick_false, oExtract_0, oExtract_1, oExtract_2, oMin_eq, oMax_eq, oFieldAddr_eq, oBuildSlice_1, oBuild_2, oBuildSlice_2, chk_zero, chk_nil, bumpH_zero, alcO_some, Bool.not_true, Bool.not_false, Option.getD_some, Option.getD_none, Option.isSome_some, Option.isSome_none, f35, f36, f8, f10, f11, f4, f5, f1]; done) | skip
            · simp only [seqO_eq, thenO_nor, thenO_ret, thenO_ex, gtO_some, bndO_ok, get_set_of, cndX_tmp, ifB_true, ifB_false, ifB_pos, ifB_neg, blkO_eq, blkX_nor, blkX_ret, blkX_ex, Nat.reduceEqDiff, Nat.zero_ne_one, Nat.one_ne_zero, reduceCtorEq, ↓reduceIte, oBin_add, oBin_sub, oBin_eql, oBin_neq, oBin_lss, oBin_leq, oBin_gtr, oBin_geq, oUn_not, oPick_true, oPick_false, oExtract_0, oExtract_1, oExtract_2, oMin_eq, oMax_eq, oFieldAddr_eq, oBuildSlice_1, oBuild_2, oBuildSlice_2, chk_zero, chk_nil, bumpH_zero, alcO_some, Bool.not_true, Bool.not_false, Option.getD_some, Option.getD_none, Option.isSome_some, Option.isSome_none]; rfl
            · rw [a3.get _ (by omega)]; exact hn
            · rw [a3.get _ (by omega)]; exact hk2
          | some j =>
            rw [posM_some hi] at lk
            by_cases hlt : last < (j : Int)
            · obtain ⟨ek', up, hK'⟩ := oMapK_int hk2 hK x (.bool true) .i64
              simp (disch := omega) only [seqO_eq, thenO_nor, thenO_ret, thenO_ex, gtO_some, bndO_ok, get_set_of, cndX_tmp, ifB_true, ifB_false, ifB_pos, ifB_neg, blkO_eq, blkX_nor, blkX_ret, blkX_ex, Nat.reduceEqDiff, Nat.zero_ne_one, Nat.one_ne_zero, reduceCtorEq, ↓reduceIte, oBin_add, oBin_sub, oBin_eql, oBin_neq, oBin_lss, oBin_leq, oBin_gtr, oBin_geq, oUn_not, oPick_true, oPick_false, oExtract_0, oExtract_1, oExtract_2, oMin_eq, oMax_eq, oFieldAddr_eq, oBuildSlice_1, oBuild_2, oBuildSlice_2, chk_zero, chk_nil, bumpH_zero, alcO_some, Bool.not_true, Bool.not_false, Option.getD_some, Option.getD_none, Option.isSome_some, Option.isSome_none, Tryb8_8, Tryr8_8, f37, f36, Tryr8_9, f35, e1, e2', Tryr8_10, f8, lk, Tryr8_11, f11, Tryr8_12, f10, up, Tryr8_14]
              refine ⟨m - 1, by omega, k + 1, (j : Int), g, G0, K0 ++ [x], ek', by omega, ?_, ?_, ?_, ?_, ?_, ?_, ?_, ?_, ?_, ?_, put_self _ _ _, ?_, ?_, frh.trans (Fr.put _ _ hb2), hnx, by omega, ?_, ?_⟩
              all_goals first | (simp only [seqO_eq, thenO_nor, thenO_ret, thenO_ex, gtO_some, bndO_ok, get_set_of, cndX_tmp, ifB_true, ifB_false, ifB_pos, ifB_neg, blkO_eq, blkX_nor, blkX_ret, blkX_ex, Nat.reduceEqDiff, Nat.zero_ne_one, Nat.one_ne_zero, reduceCtorEq, ↓reduceIte, oBin_add, oBin_sub, oBin_eql, oBin_neq, oBin_lss, oBin_leq, oBin_gtr, oBin_geq, oUn_not, oPick_true, oPick_false, oExtract_0, oExtract_1, oExtract_2, oMin_eq, oMax_eq, oFieldAddr_eq, oBuildSlice_1, oBuild_2, oBuildSlice_2, chk_zero, chk_nil, bumpH_zero, alcO_some, Bool.not_true, Bool.not_false, Option.getD_some, Option.getD_none, Option.isSome_some, Option.isSome_none, f35, f36, f8, f10, f11, f4, f5, f1]; done) | skip
              · simp only [seqO_eq, thenO_nor, thenO_ret, thenO_ex, gtO_some, bndO_ok, get_set_of, cndX_tmp, ifB_true, ifB_false, ifB_pos, ifB_neg, blkO_eq, blkX_nor, blkX_ret, blkX_ex, Nat.reduceEqDiff, Nat.zero_ne_one, Nat.one_ne_zero, reduceCtorEq, ↓reduceIte, oBin_add, oBin_sub, oBin_eql, oBin_neq, oBin_lss, oBin_leq, oBin_gtr, oBin_geq, oUn_not, oPick_true, oPick_false, oExtract_0, oExtract_1, oExtract_2, oMin_eq, oMax_eq, oFieldAddr_eq, oBuildSlice_1, oBuild_2, oBuildSlice_2, chk_zero, chk_nil, bumpH_zero, alcO_some, Bool.not_true, Bool.not_false, Option.getD_some, Option.getD_none, Option.isSome_some, Option.isSome_none]; rfl
              · rw [put_ne _ (by omega)]; exact hn
              · rw [keptM_snoc]; exact hK'
              · exact ow.keep (Nat.le_refl _) fun j hj _ => put_ne _ (by omega) _
              · rw [← eG, keepGo, hi]; simp [hlt]
              · rw [← eK, keepGo, hi]; simp [hlt]
            · obtain ⟨v', h'', a1, a2, a3, a4, a5, a6⟩ := gone (by rw [keepGo, hi]; simp [hlt]) (by rw [keepGo, hi]; simp [hlt])
              simp (disch := omega) only [seqO_eq, thenO_nor, thenO_ret, thenO_ex, gtO_some, bndO_ok, get_set_of, cndX_tmp, ifB_true, ifB_false, ifB_pos, ifB_neg, blkO_eq, blkX_nor, blkX_ret, blkX_ex, Nat.reduceEqDiff, Nat.zero_ne_one, Nat.one_ne_zero, reduceCtorEq, ↓reduceIte, oBin_add, oBin_sub, oBin_eql, oBin_neq, oBin_lss, oBin_leq, oBin_gtr, oBin_geq, oUn_not, oPick_true, oPick_false, oExtract_0, oExtract_1, oExtract_2, oMin_eq, oMax_eq, oFieldAddr_eq, oBuildSlice_1, oBuild_2, oBuildSlice_2, chk_zero, chk_nil, bumpH_zero, alcO_some, Bool.not_true, Bool.not_false, Option.getD_some, Option.getD_none, Option.isSome_some, Option.isSome_none, Tryb8_8, Tryr8_8, f37, f36, Tryr8_9, f35, e1, e2', Tryr8_10, f8, lk, Tryr8_11, f11, Tryr8_13, f4, a1, Tryr8_14]
              refine ⟨m - 1, by omega, k + 1, last, v', G0 ++ [x], K0, ek, by omega, ?_, ?_, ?_, ?_, ?_, ?_, ?_, ?_, ?_, ?_, ?_, hK, a2, frh.trans (a3.le (by omega)), by have := a3.next; omega, a4, a5, a6⟩
              all_goals first | (simp only [seqO_eq, thenO_nor, thenO_ret, thenO_ex, gtO_some, bndO_ok, get_set_of, cndX_tmp, ifB_true, ifB_false, ifB_pos, ifB_neg, blkO_eq, blkX_nor, blkX_ret, blkX_ex, Nat.reduceEqDiff, Nat.zero_ne_one, Nat.one_ne_zero, reduceCtorEq, ↓reduceIte, oBin_add, oBin_sub, oBin_eql, oBin_neq, oBin_lss, oBin_leq, oBin_gtr, oBin_geq, oUn_not, oPick_true, oPick_false, oExtract_0, oExtract_1, oExtract_2, oMin_eq, oMax_eq, oFieldAddr_eq, oBuildSlice_1, oBuild_2, oBuildSlice_2, chk_zero, chk_nil, bumpH_zero, alcO_some, Bool.not_true, Bool.not_false, Option.getD_some, Option.getD_none, Option.isSome_some, Option.isSome_none, f35, f36, f8, f10, f11, f4, f5, f1]; done) | skip
              · simp only [seqO_eq, thenO_nor, thenO_ret, thenO_ex, gtO_some, bndO_ok, get_set_of, cndX_tmp, ifB_true, ifB_false, ifB_pos, ifB_neg, blkO_eq, blkX_nor, blkX_ret, blkX_ex, Nat.reduceEqDiff, Nat.zero_ne_one, Nat.one_ne_zero, reduceCtorEq, ↓reduceIte, oBin_add, oBin_sub, oBin_eql, oBin_neq, oBin_lss, oBin_leq, oBin_gtr, oBin_geq, oUn_not, oPick_true, oPick_false, oExtract_0, oExtract_1, oExtract_2, oMin_eq, oMax_eq, oFieldAddr_eq, oBuildSlice_1, oBuild_2, oBuildSlice_2, chk_zero, chk_nil, bumpH_zero, alcO_some, Bool.not_true, Bool.not_false, Option.getD_some, Option.getD_none, Option.isSome_some, Option.isSome_none]; rfl
              · rw [a3.get _ (by omega)]; exact hn
              · rw [a3.get _ (by omega)]; exact hk2
        · have hk' : k = old.length := by omega
          subst hk'
          rw [List.drop_length] at eG eK
          simp only [keepGo, List.append_nil] at eG eK
          subst eG eK
          simp (disch := omega) only [seqO_eq, thenO_nor, thenO_ret, thenO_ex, gtO_some, bndO_ok, get_set_of, cndX_tmp, ifB_true, ifB_false, ifB_pos, ifB_neg, blkO_eq, blkX_nor, blkX_ret, blkX_ex, Nat.reduceEqDiff, Nat.zero_ne_one, Nat.one_ne_zero, reduceCtorEq, ↓reduceIte, oBin_add, oBin_sub, oBin_eql, oBin_neq, oBin_lss, oBin_leq, oBin_gtr, oBin_geq, oUn_not, oPick_true, oPick_false, oExtract_0, oExtract_1, oExtract_2, oMin_eq, oMax_eq, oFieldAddr_eq, oBuildSlice_1, oBuild_2, oBuildSlice_2, chk_zero, chk_nil, bumpH_zero, alcO_some, Bool.not_true, Bool.not_false, Option.getD_some, Option.getD_none, Option.isSome_some, Option.isSome_none, Tryb8_8, Tryr8_8, f37, f36]
          exact ⟨rfl, g, ek, by simp only [seqO_eq, thenO_nor, thenO_ret, thenO_ex, gtO_some, bndO_ok, get_set_of, cndX_tmp, ifB_true, ifB_false, ifB_pos, ifB_neg, blkO_eq, blkX_nor, blkX_ret, blkX_ex, Nat.reduceEqDiff, Nat.zero_ne_one, Nat.one_ne_zero, reduceCtorEq, ↓reduceIte, oBin_add, oBin_sub, oBin_eql, oBin_neq, oBin_lss, oBin_leq, oBin_gtr, oBin_geq, oUn_not, oPick_true, oPick_false, oExtract_0, oExtract_1, oExtract_2, oMin_eq, oMax_eq, oFieldAddr_eq, oBuildSlice_1, oBuild_2, oBuildSlice_2, chk_zero, chk_nil, bumpH_zero, alcO_some, Bool.not_true, Bool.not_false, Option.getD_some, Option.getD_none, Option.isSome_some, Option.isSome_none, f10], by simp only [seqO_eq, thenO_nor, thenO_ret, thenO_ex, gtO_some, bndO_ok, get_set_of, cndX_tmp, ifB_true, ifB_false, ifB_pos, ifB_neg, blkO_eq, blkX_nor, blkX_ret, blkX_ex, Nat.reduceEqDiff, Nat.zero_ne_one, Nat.one_ne_zero, reduceCtorEq, ↓reduceIte, oBin_add, oBin_sub, oBin_eql, oBin_neq, oBin_lss, oBin_leq, oBin_gtr, oBin_geq, oUn_not, oPick_true, oPick_false, oExtract_0, oExtract_1, oExtract_2, oMin_eq, oMax_eq, oFieldAddr_eq, oBuildSlice_1, oBuild_2, oBuildSlice_2, chk_zero, chk_nil, bumpH_zero, alcO_some, Bool.not_true, Bool.not_false, Option.getD_some, Option.getD_none, Option.isSome_some, Option.isSome_none, f4], by simp only [seqO_eq, thenO_nor, thenO_ret, thenO_ex, gtO_some, bndO_ok, get_set_of, cndX_tmp, ifB_true, ifB_false, ifB_pos, ifB_neg, blkO_eq, blkX_nor, blkX_ret, blkX_ex, Nat.reduceEqDiff, Nat.zero_ne_one, Nat.one_ne_zero, reduceCtorEq, ↓reduceIte, oBin_add, oBin_sub, oBin_eql, oBin_neq, oBin_lss, oBin_leq, oBin_gtr, oBin_geq, oUn_not, oPick_true, oPick_false, oExtract_0, oExtract_1, oExtract_2, oMin_eq, oMax_eq, oFieldAddr_eq, oBuildSlice_1, oBuild_2, oBuildSlice_2, chk_zero, chk_nil, bumpH_zero, alcO_some, Bool.not_true, Bool.not_false, Option.getD_some, Option.getD_none, Option.isSome_some, Option.isSome_none, f5], by simp only [seqO_eq, thenO_nor, thenO_ret, thenO_ex, gtO_some, bndO_ok, get_set_of, cndX_tmp, ifB_true, ifB_false, ifB_pos, ifB_neg, blkO_eq, blkX_nor, blkX_ret, blkX_ex, Nat.reduceEqDiff, Nat.zero_ne_one, Nat.one_ne_zero, reduceCtorEq, ↓reduceIte, oBin_add, oBin_sub, oBin_eql, oBin_neq, oBin_lss, oBin_leq, oBin_gtr, oBin_geq, oUn_not, oPick_true, oPick_false, oExtract_0, oExtract_1, oExtract_2, oMin_eq, oMax_eq, oFieldAddr_eq, oBuildSlice_1, oBuild_2, oBuildSlice_2, chk_zero, chk_nil, bumpH_zero, alcO_some, Bool.not_true, Bool.not_false, Option.getD_some, Option.getD_none, Option.isSome_some, Option.isSome_none, f1], hk2, hK, ow, frh, hnx⟩
      · rintro fr h' ⟨g, ek, f10, f4, f5, f1, hk2, hK, ow, frh, hnx⟩
        rw [← Prod.eta (diffM old now)] at hG
        injection hG with hG1 hG2
        generalize (keepGo now old (-1)).1 = G at *
        generalize (keepGo now old (-1)).2 = K at *
        simp (disch := omega) only [seqO_eq, thenO_nor, thenO_ret, thenO_ex, gtO_some, bndO_ok, get_set_of, cndX_tmp, ifB_true, ifB_false, ifB_pos, ifB_neg, blkO_eq, blkX_nor, blkX_ret, blkX_ex, Nat.reduceEqDiff, Nat.zero_ne_one, Nat.one_ne_zero, reduceCtorEq, ↓reduceIte, oBin_add, oBin_sub, oBin_eql, oBin_neq, oBin_lss, oBin_leq, oBin_gtr, oBin_geq, oUn_not, oPick_true, oPick_false, oExtract_0, oExtract_1, oExtract_2, oMin_eq, oMax_eq, oFieldAddr_eq, oBuildSlice_1, oBuild_2, oBuildSlice_2, chk_zero, chk_nil, bumpH_zero, alcO_some, Bool.not_true, Bool.not_false, Option.getD_some, Option.getD_none, Option.isSome_some, Option.isSome_none, Tryr8_15, f1, t.length]
        refine Oc.then (loop_rule (n := now.length) (fun m fr g' => ∃ (k : Nat) (a : V) (A0 : List (Int × Int)), k + m = now.length ∧ fr.get (Pos.of 61) = some u ∧ fr.get (Pos.of 62) = some (.int .i64 (now.length : Int)) ∧ fr.get (Pos.of 63) = some (.int .i64 (k : Int)) ∧
            fr.get (Pos.of 10) = some (.map h2.next) ∧ fr.get (Pos.of 4) = some g ∧ fr.get (Pos.of 5) = some a ∧ Own h'.next.nat g' 2 a A0.length (items A0) ∧ Fr h'.next.nat h' g' ∧ A0.length ≤ k ∧ A0 ++ addGo K (now.drop k) k = addGo K now 0)
          (A := fun fr g' => ∃ a, fr.get (Pos.of 4) = some g ∧ fr.get (Pos.of 5) = some a ∧ Own h'.next.nat g' 2 a (addGo K now 0).length (items (addGo K now 0)) ∧ Fr h'.next.nat h' g')
          (B := fun _ _ => False) (by rw [lf_eq]; omega) ?_ ?_) ?_ ?_
        · refine ⟨0, .nils, [], by omega, ?_, ?_, ?_, ?_, ?_, ?_, Own.nil _ _ _, Fr.refl _ _, by simp, by simp⟩
          all_goals first | (simp only [seqO_eq, thenO_nor, thenO_ret, thenO_ex, gtO_some, bndO_ok, get_set_of, cndX_tmp, ifB_true, ifB_false, ifB_pos, ifB_neg, blkO_eq, blkX_nor, blkX_ret, blkX_ex, Nat.reduceEqDiff, Nat.zero_ne_one, Nat.one_ne_zero, reduceCtorEq, ↓reduceIte, oBin_add, oBin_sub, oBin_eql, oBin_neq, oBin_lss, oBin_leq, oBin_gtr, oBin_geq, oUn_not, oPick_true, oPick_false, oExtract_0, oExtract_1, oExtract_2, oMin_eq, oMax_eq, oFieldAddr_eq, oBuildSlice_1, oBuild_2, oBuildSlice_2, chk_zero, chk_nil, bumpH_zero, alcO_some, Bool.not_true, Bool.not_false, Option.getD_some, Option.getD_none, Option.isSome_some, Option.isSome_none, f10, f4, f5]; done) | (simp only [seqO_eq, thenO_nor, thenO_ret, thenO_ex, gtO_some, bndO_ok, get_set_of, cndX_tmp, ifB_true, ifB_false, ifB_pos, ifB_neg, blkO_eq, blkX_nor, blkX_ret, blkX_ex, Nat.reduceEqDiff, Nat.zero_ne_one, Nat.one_ne_zero, reduceCtorEq, ↓reduceIte, oBin_add, oBin_sub, oBin_eql, oBin_neq, oBin_lss, oBin_leq, oBin_gtr, oBin_geq, oUn_not, oPick_true, oPick_false, oExtract_0, oExtract_1, oExtract_2, oMin_eq, oMax_eq, oFieldAddr_eq, oBuildSlice_1, oBuild_2, oBuildSlice_2, chk_zero, chk_nil, bumpH_zero, alcO_some, Bool.not_true, Bool.not_false, Option.getD_some, Option.getD_none, Option.isSome_some, Option.isSome_none]; rfl)
        · rintro m fr g' ⟨k, a, A0, hkm, f61, f62, f63, f10, f4, f5, owa, frg, hAl, eA⟩
          by_cases hk : k < now.length
          · obtain ⟨i, q, e1, hib, e2⟩ := Sl.ints t hk
            have e2' := e2 g' (by rw [frg.get i (by omega), frh.get i hib])
            have hd : now.drop k = now[k] :: now.drop (k + 1) := List.drop_eq_getElem_cons hk
            generalize now[k] = x at *
            rw [hd] at eA
            have hk2' : g'.get h2.next = some (.map ek) := by rw [frg.get _ (by omega)]; exact hk2
            have lk := oLookK_int (z := .bool false) hk2' hK x .i64
            by_cases hx : x ∈ K
            · rw [keptM, if_pos hx] at lk
              simp (disch := omega) only [seqO_eq, thenO_nor, thenO_ret, thenO_ex, gtO_some, bndO_ok, get_set_of, cndX_tmp, ifB_true, ifB_false, ifB_pos, ifB_neg, blkO_eq, blkX_nor, blkX_ret, blkX_ex, Nat.reduceEqDiff, Nat.zero_ne_one, Nat.one_ne_zero, reduceCtorEq, ↓reduceIte, oBin_add, oBin_sub, oBin_eql, oBin_neq, oBin_lss, oBin_leq, oBin_gtr, oBin_geq, oUn_not, oPick_true, oPick_false, oExtract_0, oExtract_1, oExtract_2, oMin_eq, oMax_eq, oFieldAddr_eq, oBuildSlice_1, oBuild_2, oBuildSlice_2, chk_zero, chk_nil, bumpH_zero, alcO_some, Bool.not_true, Bool.not_false, Option.getD_some, Option.getD_none, Option.isSome_some, Option.isSome_none, Tryb8_16, Tryr8_16, f63, f62, Tryr8_17, f61, e1, e2', Tryr8_18, f10, lk, Tryr8_20]
              refine ⟨m - 1, by omega, k + 1, a, A0, by omega, ?_, ?_, ?_, ?_, ?_, ?_, owa, frg, by omega, by rw [← eA]; simp [addGo, hx]⟩
              all_goals first | (simp only [seqO_eq, thenO_nor, thenO_ret, thenO_ex, gtO_some, bndO_ok, get_set_of, cndX_tmp, ifB_true, ifB_false, ifB_pos, ifB_neg, blkO_eq, blkX_nor, blkX_ret, blkX_ex, Nat.reduceEqDiff, Nat.zero_ne_one, Nat.one_ne_zero, reduceCtorEq, ↓reduceIte, oBin_add, oBin_sub, oBin_eql, oBin_neq, oBin_lss, oBin_leq, oBin_gtr, oBin_geq, oUn_not, oPick_true, oPick_false, oExtract_0, oExtract_1, oExtract_2, oMin_eq, oMax_eq, oFieldAddr_eq, oBuildSlice_1, oBuild_2, oBuildSlice_2, chk_zero, chk_nil, bumpH_zero, alcO_some, Bool.not_true, Bool.not_false, Option.getD_some, Option.getD_none, Option.isSome_some, Option.isSome_none, f61, f62, f10, f4, f5]; done) | (simp only [seqO_eq, thenO_nor, thenO_ret, thenO_ex, gtO_some, bndO_ok, get_set_of, cndX_tmp, ifB_true, ifB_false, ifB_pos, ifB_neg, blkO_eq, blkX_nor, blkX_ret, blkX_ex, Nat.reduceEqDiff, Nat.zero_ne_one, Nat.one_ne_zero, reduceCtorEq, ↓reduceIte, oBin_add, oBin_sub, oBin_eql, oBin_neq, oBin_lss, oBin_leq, oBin_gtr, oBin_geq, oUn_not, oPick_true, oPick_false, oExtract_0, oExtract_1, oExtract_2, oMin_eq, oMax_eq, oFieldAddr_eq, oBuildSlice_1, oBuild_2, oBuildSlice_2, chk_zero, chk_nil, bumpH_zero, alcO_some, Bool.not_true, Bool.not_false, Option.getD_some, Option.getD_none, Option.isSome_some, Option.isSome_none]; rfl)
            · rw [keptM, if_neg hx] at lk
              obtain ⟨v', g'', a1, a2, a3⟩ := append_own (bt := 16) (new := [.int .i64 x, .int .i64 (k : Int)]) owa frg.next rfl (by omega)
              simp (disch := omega) only [seqO_eq, thenO_nor, thenO_ret, thenO_ex, gtO_some, bndO_ok, get_set_of, cndX_tmp, ifB_true, ifB_false, ifB_pos, ifB_neg, blkO_eq, blkX_nor, blkX_ret, blkX_ex, Nat.reduceEqDiff, Nat.zero_ne_one, Nat.one_ne_zero, reduceCtorEq, ↓reduceIte, oBin_add, oBin_sub, oBin_eql, oBin_neq, oBin_lss, oBin_leq, oBin_gtr, oBin_geq, oUn_not, oPick_true, oPick_false, oExtract_0, oExtract_1, oExtract_2, oMin_eq, oMax_eq, oFieldAddr_eq, oBuildSlice_1, oBuild_2, oBuildSlice_2, chk_zero, chk_nil, bumpH_zero, alcO_some, Bool.not_true, Bool.not_false, Option.getD_some, Option.getD_none, Option.isSome_some, Option.isSome_none, Tryb8_16, Tryr8_16, f63, f62, Tryr8_17, f61, e1, e2', Tryr8_18, f10, lk, Tryr8_19, f5, a1, Tryr8_20]
              refine ⟨m - 1, by omega, k + 1, v', A0 ++ [(x, (k : Int))], by omega, ?_, ?_, ?_, ?_, ?_, ?_, by rw [items_append, List.length_append]; exact a2, frg.trans a3, by simp; omega, by rw [← eA]; simp [addGo, hx]⟩
              all_goals first | (simp only [seqO_eq, thenO_nor, thenO_ret, thenO_ex, gtO_some, bndO_ok, get_set_of, cndX_tmp, ifB_true, ifB_false, ifB_pos, ifB_neg, blkO_eq, blkX_nor, blkX_ret, blkX_ex, Nat.reduceEqDiff, Nat.zero_ne_one, Nat.one_ne_zero, reduceCtorEq, ↓reduceIte, oBin_add, oBin_sub, oBin_eql, oBin_neq, oBin_lss, oBin_leq, oBin_gtr, oBin_geq, oUn_not, oPick_true, oPick_false, oExtract_0, oExtract_1, oExtract_2, oMin_eq, oMax_eq, oFieldAddr_eq, oBuildSlice_1, oBuild_2, oBuildSlice_2, chk_zero, chk_nil, bumpH_zero, alcO_some, Bool.not_true, Bool.not_false, Option.getD_some, Option.getD_none, Option.isSome_some, Option.isSome_none, f61, f62, f10, f4, f5]; done) | (simp only [seqO_eq, thenO_nor, thenO_ret, thenO_ex, gtO_some, bndO_ok, get_set_of, cndX_tmp, ifB_true, ifB_false, ifB_pos, ifB_neg, blkO_eq, blkX_nor, blkX_ret, blkX_ex, Nat.reduceEqDiff, Nat.zero_ne_one, Nat.one_ne_zero, reduceCtorEq, ↓reduceIte, oBin_add, oBin_sub, oBin_eql, oBin_neq, oBin_lss, oBin_leq, oBin_gtr, oBin_geq, oUn_not, oPick_true, oPick_false, oExtract_0, oExtract_1, oExtract_2, oMin_eq, oMax_eq, oFieldAddr_eq, oBuildSlice_1, oBuild_2, oBuildSlice_2, chk_zero, chk_nil, bumpH_zero, alcO_some, Bool.not_true, Bool.not_false, Option.getD_some, Option.getD_none, Option.isSome_some, Option.isSome_none]; rfl)
          · have hk' : k = now.length := by omega
            subst hk'
            rw [List.drop_length] at eA
            simp only [addGo, List.append_nil] at eA
            subst eA
            simp (disch := omega) only [seqO_eq, thenO_nor, thenO_ret, thenO_ex, gtO_some, bndO_ok, get_set_of, cndX_tmp, ifB_true, ifB_false, ifB_pos, ifB_neg, blkO_eq, blkX_nor, blkX_ret, blkX_ex, Nat.reduceEqDiff, Nat.zero_ne_one, Nat.one_ne_zero, reduceCtorEq, ↓reduceIte, oBin_add, oBin_sub, oBin_eql, oBin_neq, oBin_lss, oBin_leq, oBin_gtr, oBin_geq, oUn_not, oPick_true, oPick_false, oExtract_0, oExtract_1, oExtract_2, oMin_eq, oMax_eq, oFieldAddr_eq, oBuildSlice_1, oBuild_2, oBuildSlice_2, chk_zero, chk_nil, bumpH_zero, alcO_some, Bool.not_true, Bool.not_false, Option.getD_some, Option.getD_none, Option.isSome_some, Option.isSome_none, Tryb8_16, Tryr8_16, f63, f62]
            exact ⟨rfl, a, by simp only [seqO_eq, thenO_nor, thenO_ret, thenO_ex, gtO_some, bndO_ok, get_set_of, cndX_tmp, ifB_true, ifB_false, ifB_pos, ifB_neg, blkO_eq, blkX_nor, blkX_ret, blkX_ex, Nat.reduceEqDiff, Nat.zero_ne_one, Nat.one_ne_zero, reduceCtorEq, ↓reduceIte, oBin_add, oBin_sub, oBin_eql, oBin_neq, oBin_lss, oBin_leq, oBin_gtr, oBin_geq, oUn_not, oPick_true, oPick_false, oExtract_0, oExtract_1, oExtract_2, oMin_eq, oMax_eq, oFieldAddr_eq, oBuildSlice_1, oBuild_2, oBuildSlice_2, chk_zero, chk_nil, bumpH_zero, alcO_some, Bool.not_true, Bool.not_false, Option.getD_some, Option.getD_none, Option.isSome_some, Option.isSome_none, f4], by simp only [seqO_eq, thenO_nor, thenO_ret, thenO_ex, gtO_some, bndO_ok, get_set_of, cndX_tmp, ifB_true, ifB_false, ifB_pos, ifB_neg, blkO_eq, blkX_nor, blkX_ret, blkX_ex, Nat.reduceEqDiff, Nat.zero_ne_one, Nat.one_ne_zero, reduceCtorEq, ↓reduceIte, oBin_add, oBin_sub, oBin_eql, oBin_neq, oBin_lss, oBin_leq, oBin_gtr, oBin_geq, oUn_not, oPick_true, oPick_false, oExtract_0, oExtract_1, oExtract_2, oMin_eq, oMax_eq, oFieldAddr_eq, oBuildSlice_1, oBuild_2, oBuildSlice_2, chk_zero, chk_nil, bumpH_zero, alcO_some, Bool.not_true, Bool.not_false, Option.getD_some, Option.getD_none, Option.isSome_some, Option.isSome_none, f5], owa, frg⟩
        · rintro fr g' ⟨a, f4, f5, owa, frg⟩
          simp only [seqO_eq, thenO_nor, thenO_ret, thenO_ex, gtO_some, bndO_ok, get_set_of, cndX_tmp, ifB_true, ifB_false, ifB_pos, ifB_neg, blkO_eq, blkX_nor, blkX_ret, blkX_ex, Nat.reduceEqDiff, Nat.zero_ne_one, Nat.one_ne_zero, reduceCtorEq, ↓reduceIte, oBin_add, oBin_sub, oBin_eql, oBin_neq, oBin_lss, oBin_leq, oBin_gtr, oBin_geq, oUn_not, oPick_true, oPick_false, oExtract_0, oExtract_1, oExtract_2, oMin_eq, oMax_eq, oFieldAddr_eq, oBuildSlice_1, oBuild_2, oBuildSlice_2, chk_zero, chk_nil, bumpH_zero, alcO_some, Bool.not_true, Bool.not_false, Option.getD_some, Option.getD_none, Option.isSome_some, Option.isSome_none, Tryr8_21, f4, f5]
          refine Tells.ret (by simp only [resK, get_set_of, seqO_eq, thenO_nor, thenO_ret, thenO_ex, gtO_some, bndO_ok, get_set_of, cndX_tmp, ifB_true, ifB_false, ifB_pos, ifB_neg, blkO_eq, blkX_nor, blkX_ret, blkX_ex, Nat.reduceEqDiff, Nat.zero_ne_one, Nat.one_ne_zero, reduceCtorEq, ↓reduceIte, oBin_add, oBin_sub, oBin_eql, oBin_neq, oBin_lss, oBin_leq, oBin_gtr, oBin_geq, oUn_not, oPick_true, oPick_false, oExtract_0, oExtract_1, oExtract_2, oMin_eq, oMax_eq, oFieldAddr_eq, oBuildSlice_1, oBuild_2, oBuildSlice_2, chk_zero, chk_nil, bumpH_zero, alcO_some, Bool.not_true, Bool.not_false, Option.getD_some, Option.getD_none, Option.isSome_some, Option.isSome_none, tupR]; rfl) ⟨frh.trans (frg.le (by have := frh.next; omega)), g, a, rfl, ?_, ?_⟩
          · rw [hG1]; exact (ow.sl.fr frg).le frg.next
          · rw [hG2]; exact owa.sl
        · intro _ _ hf; exact hf.elim
      · intro _ _ hf; exact hf.elim
    · simp (disch := omega) only [seqO_eq, thenO_nor, thenO_ret, thenO_ex, gtO_some, bndO_ok, get_set_of, cndX_tmp, ifB_true, ifB_false, ifB_pos, ifB_neg, blkO_eq, blkX_nor, blkX_ret, blkX_ex, Nat.reduceEqDiff, Nat.zero_ne_one, Nat.one_ne_zero, reduceCtorEq, ↓reduceIte, oBin_add, oBin_sub, oBin_eql, oBin_neq, oBin_lss, oBin_leq, oBin_gtr, oBin_geq, oUn_not, oPick_true, oPick_false, oExtract_0, oExtract_1, oExtract_2, oMin_eq, oMax_eq, oFieldAddr_eq, oBuildSlice_1, oBuild_2, oBuildSlice_2, chk_zero, chk_nil, bumpH_zero, alcO_some, Bool.not_true, Bool.not_false, Option.getD_some, Option.getD_none, Option.isSome_some, Option.isSome_none, Tryd8, Tryr8_0, Tryr8_1, Tryr8_2, p1, p2, Tryr8_3, Tryr8_4]
      exact hno _ fun h => nd2 h.2
  · have hno' := fun fr => hno fr fun h => nd1 h.1
    rcases q2 with ⟨-, mn, es, rfl, -⟩ | ⟨-, z, rfl⟩
    · simp (disch := omega) only [seqO_eq, thenO_nor, thenO_ret, thenO_ex, gtO_some, bndO_ok, get_set_of, cndX_tmp, ifB_true, ifB_false, ifB_pos, ifB_neg, blkO_eq, blkX_nor, blkX_ret, blkX_ex, Nat.reduceEqDiff, Nat.zero_ne_one, Nat.one_ne_zero, reduceCtorEq, ↓reduceIte, oBin_add, oBin_sub, oBin_eql, oBin_neq, oBin_lss, oBin_leq, oBin_gtr, oBin_geq, oUn_not, oPick_true, oPick_false, oExtract_0, oExtract_1, oExtract_2, oMin_eq, oMax_eq, oFieldAddr_eq, oBuildSlice_1, oBuild_2, oBuildSlice_2, chk_zero, chk_nil, bumpH_zero, alcO_some, Bool.not_true, Bool.not_false, Option.getD_some, Option.getD_none, Option.isSome_some, Option.isSome_none, Tryd8, Tryr8_0, Tryr8_1, Tryr8_2, p1, p2, Tryr8_3, Tryr8_4]
      exact hno' _
    · simp (disch := omega) only [seqO_eq, thenO_nor, thenO_ret, thenO_ex, gtO_some, bndO_ok, get_set_of, cndX_tmp, ifB_true, ifB_false, ifB_pos, ifB_neg, blkO_eq, blkX_nor, blkX_ret, blkX_ex, Nat.reduceEqDiff, Nat.zero_ne_one, Nat.one_ne_zero, reduceCtorEq, ↓reduceIte, oBin_add, oBin_sub, oBin_eql, oBin_neq, oBin_lss, oBin_leq, oBin_gtr, oBin_geq, oUn_not, oPick_true, oPick_false, oExtract_0, oExtract_1, oExtract_2, oMin_eq, oMax_eq, oFieldAddr_eq, oBuildSlice_1, oBuild_2, oBuildSlice_2, chk_zero, chk_nil, bumpH_zero, alcO_some, Bool.not_true, Bool.not_false, Option.getD_some, Option.getD_none, Option.isSome_some, Option.isSome_none, Tryd8, Tryr8_0, Tryr8_1, Tryr8_2, p1, p2, Tryr8_3, Tryr8_4]
      exact hno' _
end Go.Proofs.Ytmlbnkojodkieaa

noncomputable section
namespace Go.Proofs.Ytmlbnkojodkieaa
open Go Go.Proofs Go.Vm
set_option linter.unusedVariables false
set_option maxRecDepth 100000
set_option linter.unusedSimpArgs false
/-! ### plain laws of the answer -/
theorem idxOf?_mid (pre : List Int) (x : Int) (post : List Int) (h : x ∉ pre) : (pre ++ x :: post).idxOf? x = some pre.length := by
  induction pre with
  | nil => simp [List.idxOf?_cons]
  | cons a pre ih =>
    rw [List.cons_append, List.idxOf?_cons, ih (fun h' => h (by simp [h']))]
    have : (a == x) = false := by
      simp only [beq_eq_false_iff_ne, ne_eq]
      intro e; exact h (by simp [e])
    simp [this]
/-- where what stays comes one behind the other in the new list -/
theorem keepGo_row (P : Int → Bool) (now : List Int) (hnd : now.Nodup) : ∀ (l pre post : List Int) (last : Int), now = pre ++ l.filter (fun x => !P x) ++ post → (∀ x ∈ l, P x = true → x ∉ now) → last < pre.length →
    keepGo now l last = (l.filter P, l.filter fun x => !P x)
  | [], _, _, _, _, _, _ => rfl
  | x :: l, pre, post, last, hn, hp, hl => by
    cases hx : P x with
    | true =>
      have hi : now.idxOf? x = none := (idxOf?_none _ _).2 (hp x (by simp) hx)
      have ih := keepGo_row P now hnd l pre post last (by rw [hn]; simp [hx]) (fun y hy => hp y (by simp [hy])) hl
      simp [keepGo, hi, ih, hx]
    | false =>
      have hn' : now = pre ++ x :: (l.filter (fun x => !P x) ++ post) := by rw [hn]; simp [hx]
      have hpre : x ∉ pre := by
        rw [hn', List.nodup_append] at hnd
        exact fun h => hnd.2.2 x h x (by simp) rfl
      have hi : now.idxOf? x = some pre.length := by
        have := idxOf?_mid pre x (l.filter (fun x => !P x) ++ post) hpre
        rw [← hn'] at this
        exact this
      have ih := keepGo_row P now hnd l (pre ++ [x]) post pre.length (by rw [hn']; simp) (fun y hy => hp y (by simp [hy])) (by simp only [List.length_append, List.length_singleton]; omega)
      have hl' : last < (pre.length : Int) := hl
      simp [keepGo, hi, ih, hx, hl']
theorem addGo_append (K : List Int) : ∀ (a b : List Int) (i : Nat), addGo K (a ++ b) i = addGo K a i ++ addGo K b (i + a.length)
  | [], b, i => by simp [addGo]
  | x :: a, b, i => by
    have ih := addGo_append K a b (i + 1)
    have e : i + 1 + a.length = i + (a.length + 1) := by omega
    simp only [List.cons_append, addGo, ih, List.length_cons, e]
    split <;> simp
theorem addGo_all (K : List Int) : ∀ (a : List Int) (i : Nat), (∀ x ∈ a, x ∈ K) → addGo K a i = []
  | [], _, _ => rfl
  | x :: a, i, h => by
    rw [addGo, if_pos (h x (by simp))]
    exact addGo_all K a (i + 1) fun y hy => h y (by simp [hy])
theorem addGo_none (K : List Int) : ∀ (a : List Int) (i : Nat), (∀ x ∈ a, x ∉ K) → addGo K a i = (a.zipIdx i).map fun p => (p.1, (p.2 : Int))
  | [], _, _ => rfl
  | x :: a, i, h => by
    rw [addGo, if_neg (h x (by simp)), addGo_none K a (i + 1) fun y hy => h y (by simp [hy])]
    simp
/-- numbers from 1 on -/
def upTo (k : Nat) : List Int := (List.range k).map fun (i : Nat) => (i : Int) + 1
def newOnes (m : Nat) : List Int := (List.range m).map fun (i : Nat) => 100 + (i : Int)
theorem upTo_succ (k : Nat) : upTo (k + 1) = upTo k ++ [(k : Int) + 1] := by simp [upTo, List.range_succ]
theorem newOnes_succ (m : Nat) : newOnes (m + 1) = newOnes m ++ [100 + (m : Int)] := by simp [newOnes, List.range_succ]
theorem upTo_length (k : Nat) : (upTo k).length = k := by simp [upTo]
theorem newOnes_length (k : Nat) : (newOnes k).length = k := by simp [newOnes]
theorem mem_upTo {k : Nat} {x : Int} (h : x ∈ upTo k) : 1 ≤ x ∧ x ≤ k := by
  simp only [upTo, List.mem_map, List.mem_range] at h
  obtain ⟨i, hi, rfl⟩ := h
  omega
theorem mem_newOnes {k : Nat} {x : Int} (h : x ∈ newOnes k) : 100 ≤ x := by
  simp only [newOnes, List.mem_map, List.mem_range] at h
  obtain ⟨i, hi, rfl⟩ := h
  omega
theorem nodup_map_range (f : Nat → Int) (hf : ∀ i j, f i = f j → i = j) (k : Nat) : ((List.range k).map f).Nodup := by
  rw [List.Nodup, List.pairwise_map]
  exact (List.nodup_range (n := k)).imp fun h e => h (hf _ _ e)
theorem upTo_nodup (k : Nat) : (upTo k).Nodup := nodup_map_range _ (fun i j h => by omega) k
theorem newOnes_nodup (k : Nat) : (newOnes k).Nodup := nodup_map_range _ (fun i j h => by omega) k
theorem takes_law (P : Int → Bool) (k m : Nat) (hk : k < 100) : diffM (upTo k) ((upTo k).filter (fun x => !P x) ++ newOnes m) = ((upTo k).filter P, (newOnes m).zipIdx ((upTo k).filter fun x => !P x).length |>.map fun p => (p.1, (p.2 : Int))) := by
  have hn : ((upTo k).filter (fun x => !P x) ++ newOnes m).Nodup := by
    rw [List.nodup_append]
    refine ⟨(upTo_nodup k).filter _, newOnes_nodup m, fun a ha b hb => ?_⟩
    have h1 := mem_upTo (List.mem_filter.1 ha).1
    have h2 := mem_newOnes hb
    omega
  have hK := keepGo_row P ((upTo k).filter (fun x => !P x) ++ newOnes m) hn (upTo k) [] (newOnes m) (-1) (by simp) (fun x hx hp hm => by
    rcases List.mem_append.1 hm with hm | hm
    · have := (List.mem_filter.1 hm).2
      simp [hp] at this
    · have h1 := mem_upTo hx
      have h2 := mem_newOnes hm
      omega) (by simp)
  rw [diffM, if_pos ⟨upTo_nodup k, hn⟩, hK]
  simp only []
  rw [addGo_append, addGo_all _ _ _ (fun x hx => hx), addGo_none _ _ _ (fun x hx hm => by
    have h1 := mem_upTo (List.mem_filter.1 hm).1
    have h2 := mem_newOnes hx
    omega)]
  simp
end Go.Proofs.Ytmlbnkojodkieaa

noncomputable section
namespace Go.Proofs.Ytmlbnkojodkieaa
open Go Go.Proofs Go.Vm
set_option linter.unusedVariables false
set_option maxRecDepth 100000
set_option linter.unusedSimpArgs false
theorem sl_new {h : Hp} {sz n : Nat} {cs : List V} (hl : cs.length = n * sz) {b : Nat} (hb : h.next.nat < b) (h' : Hp) (hg : h'.get h.next = some (.cells true cs)) : Sl b h' sz (.slice h.next 0 n (.kn n)) n cs :=
  ⟨hl, .inr ⟨h.next, 0, _, true, cs, rfl, hb, by rw [hg]; rfl, fun k _ => by rw [Nat.zero_add]⟩⟩
theorem awake_ok (h : Hp) : ∃ h', TryF10 [] h = .ok (.bool true) h' ∧ Fr h.next.nat h h' := by
  rw [TryF10_eq]
  have h0 := new_next_nat h (.cells true [.int .i64 1, .int .i64 2])
  have h1 := new_next_nat (h.new (.cells true [.int .i64 1, .int .i64 2])) (.cells true [.int .i64 2, .int .i64 1])
  have s1 : Sl ((h.new (.cells true [.int .i64 1, .int .i64 2])).new (.cells true [.int .i64 2, .int .i64 1])).next.nat ((h.new (.cells true [.int .i64 1, .int .i64 2])).new (.cells true [.int .i64 2, .int .i64 1])) 1 (.slice h.next 0 2 (.kn 2)) 2 (ints [1, 2]) :=
    sl_new rfl (by omega) _ (by rw [new_ne _ (by omega), new_self]; rfl)
  have s2 : Sl ((h.new (.cells true [.int .i64 1, .int .i64 2])).new (.cells true [.int .i64 2, .int .i64 1])).next.nat ((h.new (.cells true [.int .i64 1, .int .i64 2])).new (.cells true [.int .i64 2, .int .i64 1])) 1 (.slice (h.new (.cells true [.int .i64 1, .int .i64 2])).next 0 2 (.kn 2)) 2 (ints [2, 1]) :=
    sl_new rfl (by omega) _ (by rw [new_self]; rfl)
  obtain ⟨r, h', e, f, g, a, rfl, sg, sa⟩ := diff_ok (old := [1, 2]) (now := [2, 1]) s1 s2 (Nat.le_refl _) (by simp) (by simp)
  have hd : diffM [1, 2] [2, 1] = ([2], [(2, 0)]) := by decide
  rw [hd] at sg sa
  obtain ⟨i, q, e1, -, e2⟩ := Sl.ints (l := [2]) (k := 0) sg (by simp)
  obtain ⟨j, p, e3, -, e4⟩ := Sl.items (l := [(2, 0)]) (k := 0) sa (by simp)
  have e1' := e1 h'
  have e2' := e2 h' rfl
  have e3' := e3 h'
  have e4' := (e4 h' rfl).2.2
  simp only [Int.ofNat_zero, Int.natCast_zero, List.getElem_cons_zero] at e1' e2' e3' e4'
  have : Tells Try.prog [.tmp 0] (fun r h' => r = .bool true ∧ Fr h.next.nat h h') (Tryd10 T.nil h) := by
    simp (disch := omega) only [seqO_eq, thenO_nor, thenO_ret, thenO_ex, gtO_some, bndO_ok, get_set_of, cndX_tmp, ifB_true, ifB_false, ifB_pos, ifB_neg, blkO_eq, blkX_nor, blkX_ret, blkX_ex, Nat.reduceEqDiff, Nat.zero_ne_one, Nat.one_ne_zero, reduceCtorEq, ↓reduceIte, oBin_add, oBin_sub, oBin_eql, oBin_neq, oBin_lss, oBin_leq, oBin_gtr, oBin_geq, oUn_not, oPick_true, oPick_false, oExtract_0, oExtract_1, oExtract_2, oMin_eq, oMax_eq, oFieldAddr_eq, oConvInt_i64, oBin_rem, oBuildSlice_11, oBinAgg_eql2, oBinAgg_neq2, oBuildSlice_1, oBuild_2, oBuildSlice_2, chk_zero, chk_nil, bumpH_zero, alcO_some, Bool.not_true, Bool.not_false, Option.getD_some, Option.getD_none, Option.isSome_some, Option.isSome_none, Tryd10, Tryr10_0, Tryr10_1, e, Tryr10_2, sg.length, List.length_singleton, sa.length, Int.natCast_one, e1', e2', e3', e4', and_self, decide_true]
    refine Tells.ret (by simp only [resK, get_set_of, seqO_eq, thenO_nor, thenO_ret, thenO_ex, gtO_some, bndO_ok, get_set_of, cndX_tmp, ifB_true, ifB_false, ifB_pos, ifB_neg, blkO_eq, blkX_nor, blkX_ret, blkX_ex, Nat.reduceEqDiff, Nat.zero_ne_one, Nat.one_ne_zero, reduceCtorEq, ↓reduceIte, oBin_add, oBin_sub, oBin_eql, oBin_neq, oBin_lss, oBin_leq, oBin_gtr, oBin_geq, oUn_not, oPick_true, oPick_false, oExtract_0, oExtract_1, oExtract_2, oMin_eq, oMax_eq, oFieldAddr_eq, oConvInt_i64, oBin_rem, oBuildSlice_11, oBinAgg_eql2, oBinAgg_neq2, oBuildSlice_1, oBuild_2, oBuildSlice_2, chk_zero, chk_nil, bumpH_zero, alcO_some, Bool.not_true, Bool.not_false, Option.getD_some, Option.getD_none, Option.isSome_some, Option.isSome_none, tupR]) ⟨rfl, ((Fr.new _ (Nat.le_refl _)).trans (Fr.new _ (by omega))).trans (f.le (by omega))⟩
  obtain ⟨r, h2, e5, rfl, e6⟩ := this
  exact ⟨h2, e5, e6⟩
end Go.Proofs.Ytmlbnkojodkieaa
