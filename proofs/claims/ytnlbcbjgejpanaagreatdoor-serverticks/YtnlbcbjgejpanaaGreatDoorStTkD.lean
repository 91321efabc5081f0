/- Part of the value machine, or of a walk by it: lemmas that the claim's last text uses. No conditions. -/
import Derived.Test.YtnlbcbjgejpanaaGreatDoorStTkC
import Derived.KernelRfl
set_option linter.unusedVariables false
set_option linter.unusedSimpArgs false
set_option linter.unnecessarySimpa false
noncomputable section
namespace Go.Proofs.ImT
open Go Go.Proofs Go.Vm
set_option linter.unusedVariables false
set_option linter.unusedSimpArgs false
set_option maxRecDepth 100000
set_option maxHeartbeats 4000000
def rF (o : Option (F × Hp)) : F := match o with | some p => p.1 | none => T.nil
def rH (o : Option (F × Hp)) : Hp := match o with | some p => p.2 | none => h0 0
def argsO (o : Out) : List V := match o with | .ex _ fr _ => (match fr.get (Pos.of 0) with | some v => v.list | none => []) | _ => []
def heapO (o : Out) : Hp := match o with | .ex _ _ h => h | _ => h0 0
def nthE (k : Nat) (l : List V) : V := match nthV k l with | some v => v | none => .nilp
def valE (r : R V) : V := match r with | .ok v _ => v | .bad => .nil
def hpT (r : R V) : Hp := match r with | .ok _ h => h | .bad => h0 0
def stopO (l : List V) (h : Hp) : Out := .ex 999 (T.set (some (V.ofList l)) (Pos.of 0) T.nil) h
def lvC10 : Ctx := (.seqR Tryr10p_0 (.seqR Tryr10p_1 (.seqL .hole (seqO (seqO Tryr10p_3 (cndX (.tmp 15) (seqO Tryr10p_4 Out.ret) Out.nor)) (seqO Tryr10p_5 Out.ret)))))
theorem lvD10 : Tryd10p = lvC10.fill Tryr10p_2 := rfl
def lvA10 (A : Fun) (fr : F) (h : Hp) : Out :=
  gtO (T.get fr (Pos.of 0)) fun v0 => gtO (T.get fr (Pos.of 1)) fun v1 => bndO (oBuild [(.int .i64 0), (.int .i64 0), (.int .i64 0), .nils] [(0, 1, (.int .i64 3)), (3, 1, v1)] h) fun v11 h2 =>
  bndO (A [v0, v11] h2) fun v12 h3 =>
  Out.nor (T.set (some v12) (Pos.of 5) fr) h3
def lvK10 (K : R V) (fr : F) (h : Hp) : Out :=
  gtO (T.get fr (Pos.of 0)) fun v0 => gtO (T.get fr (Pos.of 1)) fun v1 => bndO (oBuild [(.int .i64 0), (.int .i64 0), (.int .i64 0), .nils] [(0, 1, (.int .i64 3)), (3, 1, v1)] h) fun v11 h2 =>
  bndO K fun v12 h3 =>
  Out.nor (T.set (some v12) (Pos.of 5) fr) h3
def lvS10 (fr : F) (h : Hp) : Out :=
  gtO (T.get fr (Pos.of 0)) fun v0 => gtO (T.get fr (Pos.of 1)) fun v1 => bndO (oBuild [(.int .i64 0), (.int .i64 0), (.int .i64 0), .nils] [(0, 1, (.int .i64 3)), (3, 1, v1)] h) fun v11 h2 =>
  stopO [v0, v11] h2
-- entry: lvE10, lvH10 stand in Tu
def lvC9 : Ctx := (.seqR Tryr9p_0 (.seqR (seqO Tryr9p_1 (cndX (.tmp 6) (seqO Tryr9p_2 Out.ret) Out.nor)) (.seqR Tryr9p_3 (.seqL (.seqR Tryr9p_4 (.blk 0 (.seqR (seqO Tryr9p_5 (cndX (.tmp 13) Out.nor (seqO Tryr9p_6 (cndX (.tmp 13) Out.nor Tryr9p_7)))) (.cndT 13 (.seqL .hole Out.ret) (seqO Tryr9p_9 (cndX (.tmp 23) (seqO Tryr9p_10 (cndX (.tmp 32) Tryr9p_11 Tryr9p_12)) (seqO Tryr9p_13 (cndX (.tmp 46) (seqO Tryr9p_14 Out.ret) Out.nor)))))))) (seqO Tryr9p_15 Out.ret)))))
theorem lvD9 : Tryd9p = lvC9.fill Tryr9p_8 := rfl
def lvA9 (A : Fun) (fr : F) (h : Hp) : Out :=
  gtO (T.get fr (Pos.of 0)) fun w2_0 => gtO (T.get fr (Pos.of 3)) fun w3_3 => bndO (oLoadN 4 w3_3 (bumpH 0 h)) fun v20 _ =>
  bndO (A [w2_0, v20] (bumpH 0 h)) fun v21 h4 =>
  gtO (T.get fr (Pos.of 3)) fun w0_3 => bndO (oFieldAddr 1 w0_3 h4) fun v17 _ =>
  bndO (oLoad1 v17 h4) fun v18 _ => chk (fun h => oLoad1 v17 h) v18 (
  bndO (TryF17 [v18, v21] h4) fun v22 h5 =>
  Out.nor (T.set (some v22) (Pos.of 4) fr) h5) 1 [(bumpH 0 h)]
def lvK9 (K : R V) (fr : F) (h : Hp) : Out :=
  gtO (T.get fr (Pos.of 0)) fun w2_0 => gtO (T.get fr (Pos.of 3)) fun w3_3 => bndO (oLoadN 4 w3_3 (bumpH 0 h)) fun v20 _ =>
  bndO K fun v21 h4 =>
  gtO (T.get fr (Pos.of 3)) fun w0_3 => bndO (oFieldAddr 1 w0_3 h4) fun v17 _ =>
  bndO (oLoad1 v17 h4) fun v18 _ => chk (fun h => oLoad1 v17 h) v18 (
  bndO (TryF17 [v18, v21] h4) fun v22 h5 =>
  Out.nor (T.set (some v22) (Pos.of 4) fr) h5) 1 [(bumpH 0 h)]
def lvS9 (fr : F) (h : Hp) : Out :=
  gtO (T.get fr (Pos.of 0)) fun w2_0 => gtO (T.get fr (Pos.of 3)) fun w3_3 => bndO (oLoadN 4 w3_3 (bumpH 0 h)) fun v20 _ =>
  stopO [w2_0, v20] (bumpH 0 h)
def lvC18 : Ctx := (.seqR Tryr18p_0 (.seqR Tryr18p_1 (.seqL (.blk 0 (.seqR Tryr18p_2 (.cndF 14 Out.nor (.seqR Tryr18p_3 (.cndF 17 (seqO Tryr18p_4 (seqO Tryr18p_5 Out.ret)) (.seqR Tryr18p_6 (.cndF 40 Tryr18p_7 (.seqR Tryr18p_8 (.cndT 46 (.seqL .hole Out.ret) Out.nor))))))))) (seqO Tryr18p_10 Out.ret))))
theorem lvD18 : Tryd18p = lvC18.fill Tryr18p_9 := rfl
def lvA18 (A : Fun) (fr : F) (h : Hp) : Out :=
  gtO (T.get fr (Pos.of 0)) fun v0 => gtO (T.get fr (Pos.of 5)) fun v5 => gtO (T.get fr (Pos.of 3)) fun v3 => bndO (oFieldAddr 3 v3 h) fun v58 h2 =>
  bndO (oLoad1 v58 h2) fun v59 h3 =>
  bndO (A [v0, v5, v59] h3) fun v60 h4 =>
  Out.nor (T.set (some v60) (Pos.of 4) fr) h4
def lvK18 (K : R V) (fr : F) (h : Hp) : Out :=
  gtO (T.get fr (Pos.of 0)) fun v0 => gtO (T.get fr (Pos.of 5)) fun v5 => gtO (T.get fr (Pos.of 3)) fun v3 => bndO (oFieldAddr 3 v3 h) fun v58 h2 =>
  bndO (oLoad1 v58 h2) fun v59 h3 =>
  bndO K fun v60 h4 =>
  Out.nor (T.set (some v60) (Pos.of 4) fr) h4
def lvS18 (fr : F) (h : Hp) : Out :=
  gtO (T.get fr (Pos.of 0)) fun v0 => gtO (T.get fr (Pos.of 5)) fun v5 => gtO (T.get fr (Pos.of 3)) fun v3 => bndO (oFieldAddr 3 v3 h) fun v58 h2 =>
  bndO (oLoad1 v58 h2) fun v59 h3 =>
  stopO [v0, v5, v59] h3
def lvC32 : Ctx := (.seqR Tryr32p_0 (.seqR Tryr32p_1 (.seqL (.seqR Tryr32p_2 (.blk 0 (.seqR Tryb32p_3 (.seqL (.seqR Tryr32p_3 (.seqR (cndX (.tmp 22) Out.nor (Out.ex 0)) (.seqL (.blk 1 (.seqR Tryr32p_4 (.seqL .hole (seqO Tryr32p_6 (seqO Tryr32p_7 (cndX (.tmp 48) (seqO Tryr32p_8 (Out.ex 0)) Out.nor)))))) Tryr32p_9))) (loopO Tryb32p_3 9999999999999999998))))) (seqO Tryr32p_10 Out.ret))))
theorem lvD32 : Tryd32p = lvC32.fill Tryr32p_5 := by
  unfold Tryd32p
  rw [show lf = 9999999999999999998 + 1 + 1 by rw [lf_eq], loopO_step, loopO_step]
  rfl
def lvA32 (A : Fun) (fr : F) (h : Hp) : Out :=
  gtO (T.get fr (Pos.of 1)) fun w0_1 => bndO (oNilCheck w0_1 (bumpH 0 h)) fun v27 _ =>
  bndO (oLoad1 v27 (bumpH 0 h)) fun v28 _ =>
  bndO (oNilCheck v28 (bumpH 0 h)) fun v29 _ =>
  bndO (oFieldAddr 0 v29 (bumpH 0 h)) fun v30 _ =>
  bndO (oLoad1 v30 (bumpH 0 h)) fun v31 _ =>
  gtO (T.get fr (Pos.of 0)) fun w6_0 => bndO (oNilCheck w6_0 (bumpH 0 h)) fun v33 _ =>
  bndO (oFieldAddr 0 v33 (bumpH 0 h)) fun v34 _ =>
  bndO (oLoad1 v34 (bumpH 0 h)) fun v35 _ =>
  gtO (T.get fr (Pos.of 0)) fun w10_0 => bndO (oNilCheck w10_0 (bumpH 0 h)) fun v37 _ =>
  bndO (oFieldAddr 6 v37 (bumpH 0 h)) fun v38 _ =>
  bndO (oLoad1 v38 (bumpH 0 h)) fun v39 _ =>
  gtO (T.get fr (Pos.of 9)) fun w14_9 => bndO (oLoadN 2 w14_9 (bumpH 0 h)) fun v40 _ =>
  bndO (A [v31, v35, v39, v40] (bumpH 0 h)) fun v41 h15 =>
  bndO (oExtract 0 v41 h15) fun v42 _ =>
  bndO (oExtract 1 v41 h15) fun v43 _ =>
  Out.nor (T.set (some v43) (Pos.of 11) (T.set (some v42) (Pos.of 10) fr)) h15
def lvK32 (K : R V) (fr : F) (h : Hp) : Out :=
  gtO (T.get fr (Pos.of 1)) fun w0_1 => bndO (oNilCheck w0_1 (bumpH 0 h)) fun v27 _ =>
  bndO (oLoad1 v27 (bumpH 0 h)) fun v28 _ =>
  bndO (oNilCheck v28 (bumpH 0 h)) fun v29 _ =>
  bndO (oFieldAddr 0 v29 (bumpH 0 h)) fun v30 _ =>
  bndO (oLoad1 v30 (bumpH 0 h)) fun v31 _ =>
  gtO (T.get fr (Pos.of 0)) fun w6_0 => bndO (oNilCheck w6_0 (bumpH 0 h)) fun v33 _ =>
  bndO (oFieldAddr 0 v33 (bumpH 0 h)) fun v34 _ =>
  bndO (oLoad1 v34 (bumpH 0 h)) fun v35 _ =>
  gtO (T.get fr (Pos.of 0)) fun w10_0 => bndO (oNilCheck w10_0 (bumpH 0 h)) fun v37 _ =>
  bndO (oFieldAddr 6 v37 (bumpH 0 h)) fun v38 _ =>
  bndO (oLoad1 v38 (bumpH 0 h)) fun v39 _ =>
  gtO (T.get fr (Pos.of 9)) fun w14_9 => bndO (oLoadN 2 w14_9 (bumpH 0 h)) fun v40 _ =>
  bndO K fun v41 h15 =>
  bndO (oExtract 0 v41 h15) fun v42 _ =>
  bndO (oExtract 1 v41 h15) fun v43 _ =>
  Out.nor (T.set (some v43) (Pos.of 11) (T.set (some v42) (Pos.of 10) fr)) h15
def lvS32 (fr : F) (h : Hp) : Out :=
  gtO (T.get fr (Pos.of 1)) fun w0_1 => bndO (oNilCheck w0_1 (bumpH 0 h)) fun v27 _ =>
  bndO (oLoad1 v27 (bumpH 0 h)) fun v28 _ =>
  bndO (oNilCheck v28 (bumpH 0 h)) fun v29 _ =>
  bndO (oFieldAddr 0 v29 (bumpH 0 h)) fun v30 _ =>
  bndO (oLoad1 v30 (bumpH 0 h)) fun v31 _ =>
  gtO (T.get fr (Pos.of 0)) fun w6_0 => bndO (oNilCheck w6_0 (bumpH 0 h)) fun v33 _ =>
  bndO (oFieldAddr 0 v33 (bumpH 0 h)) fun v34 _ =>
  bndO (oLoad1 v34 (bumpH 0 h)) fun v35 _ =>
  gtO (T.get fr (Pos.of 0)) fun w10_0 => bndO (oNilCheck w10_0 (bumpH 0 h)) fun v37 _ =>
  bndO (oFieldAddr 6 v37 (bumpH 0 h)) fun v38 _ =>
  bndO (oLoad1 v38 (bumpH 0 h)) fun v39 _ =>
  gtO (T.get fr (Pos.of 9)) fun w14_9 => bndO (oLoadN 2 w14_9 (bumpH 0 h)) fun v40 _ =>
  stopO [v31, v35, v39, v40] (bumpH 0 h)
def lvC70 : Ctx := (.seqR Tryr70p_0 (.seqR (blkO 0 (seqO Tryr70p_1 (cndX (.tmp 13) (seqO Tryr70p_2 Out.ret) (seqO Tryr70p_3 (cndX (.tmp 20) (seqO Tryr70p_4 Out.ret) (seqO Tryr70p_5 (cndX (.tmp 24) (seqO Tryr70p_6 Out.ret) Out.nor))))))) (.seqR Tryr70p_7 (.seqR Tryr70p_8 (.seqL .hole (seqO Tryr70p_10 (seqO (blkO 1 (seqO Tryr70p_11 (cndX (.tmp 66) (seqO Tryr70p_12 Out.ret) (seqO Tryr70p_13 (cndX (.tmp 76) (seqO Tryr70p_14 Out.ret) Out.nor))))) (seqO (seqO Tryr70p_15 (cndX (.tmp 88) Tryr70p_16 Out.nor)) (seqO (seqO Tryr70p_17 (cndX (.tmp 104) Tryr70p_18 Tryr70p_19)) (seqO Tryr70p_20 Out.ret))))))))))
theorem lvD70 : Tryd70p = lvC70.fill Tryr70p_9 := rfl
def lvA70 (A : Fun) (fr : F) (h : Hp) : Out :=
  gtO (T.get fr (Pos.of 0)) fun v0 => gtO (T.get fr (Pos.of 10)) fun v10 => gtO (T.get fr (Pos.of 7)) fun v7 => bndO (oFieldAddr 1 v7 h) fun v54 h2 =>
  bndO (oLoad1 v54 h2) fun v55 h3 =>
  bndO (oIdxS 3 v55 (.int .i64 1) h3) fun v56 h4 =>
  bndO (oFieldAddr 1 v56 h4) fun v57 h5 =>
  bndO (oLoad1 v57 h5) fun v58 h6 =>
  bndO (TryF159 [v58] h6) fun v59 h7 =>
  bndO (A [v0, v10, v59] h7) fun v60 h8 =>
  bndO (oNew 192 [(.int .i64 0), (.str []), (.bool false), (.bool false), (.bool false)] h8) fun v11 h9 =>
  bndO (oStore 5 v11 v60 h9) fun _u10 h10 =>
  Out.nor (T.set (some v11) (Pos.of 11) fr) h10
def lvK70 (K : R V) (fr : F) (h : Hp) : Out :=
  gtO (T.get fr (Pos.of 0)) fun v0 => gtO (T.get fr (Pos.of 10)) fun v10 => gtO (T.get fr (Pos.of 7)) fun v7 => bndO (oFieldAddr 1 v7 h) fun v54 h2 =>
  bndO (oLoad1 v54 h2) fun v55 h3 =>
  bndO (oIdxS 3 v55 (.int .i64 1) h3) fun v56 h4 =>
  bndO (oFieldAddr 1 v56 h4) fun v57 h5 =>
  bndO (oLoad1 v57 h5) fun v58 h6 =>
  bndO (TryF159 [v58] h6) fun v59 h7 =>
  bndO K fun v60 h8 =>
  bndO (oNew 192 [(.int .i64 0), (.str []), (.bool false), (.bool false), (.bool false)] h8) fun v11 h9 =>
  bndO (oStore 5 v11 v60 h9) fun _u10 h10 =>
  Out.nor (T.set (some v11) (Pos.of 11) fr) h10
def lvS70 (fr : F) (h : Hp) : Out :=
  gtO (T.get fr (Pos.of 0)) fun v0 => gtO (T.get fr (Pos.of 10)) fun v10 => gtO (T.get fr (Pos.of 7)) fun v7 => bndO (oFieldAddr 1 v7 h) fun v54 h2 =>
  bndO (oLoad1 v54 h2) fun v55 h3 =>
  bndO (oIdxS 3 v55 (.int .i64 1) h3) fun v56 h4 =>
  bndO (oFieldAddr 1 v56 h4) fun v57 h5 =>
  bndO (oLoad1 v57 h5) fun v58 h6 =>
  bndO (TryF159 [v58] h6) fun v59 h7 =>
  stopO [v0, v10, v59] h7
def lvC158 : Ctx := (.seqR Tryr158p_0 (.seqR (seqO Tryr158p_1 (cndX (.tmp 11) (seqO (seqO Tryr158p_2 (cndX (.tmp 17) (seqO Tryr158p_3 Out.ret) Out.nor)) (seqO Tryr158p_4 Tryr158p_5)) Out.nor)) (.seqR Tryr158p_6 (.seqR (seqO Tryr158p_7 (cndX (.tmp 59) (seqO Tryr158p_8 Out.ret) Out.nor)) (.seqR Tryr158p_9 (.seqR (seqO Tryr158p_10 (blkO 0 (seqO Tryr158p_11 (cndX (.tmp 63) Tryr158p_12 (seqO Tryr158p_13 (cndX (.tmp 70) Tryr158p_14 (seqO Tryr158p_15 (cndX (.tmp 76) Tryr158p_16 Out.nor)))))))) (.seqR (seqO Tryr158p_17 (cndX (.tmp 84) (seqO Tryr158p_18 Out.ret) Out.nor)) (.seqL .hole Out.ret))))))))
theorem lvD158 : Tryd158p = lvC158.fill Tryr158p_19 := rfl
def lvA158 (A : Fun) (fr : F) (h : Hp) : Out :=
  gtO (T.get fr (Pos.of 7)) fun v7 => bndO (oFieldAddr 0 v7 h) fun v86 h0 =>
  bndO (oLoad1 v86 h0) fun v87 h1 =>
  gtO (T.get fr (Pos.of 1)) fun v1 => bndO (oCallV (fun f => match Nat.beq f 61 with | true => some A | false => Trye158p f) v87 [v1] h1) fun v89 h3 =>
  gtO (T.get fr (Pos.of 6)) fun v6 => bndO (oStore 5 v6 v89 h3) fun _u4 h4 =>
  Out.nor fr h4
def lvK158 (K : R V) (fr : F) (h : Hp) : Out :=
  gtO (T.get fr (Pos.of 7)) fun v7 => bndO (oFieldAddr 0 v7 h) fun v86 h0 =>
  bndO (oLoad1 v86 h0) fun v87 h1 =>
  gtO (T.get fr (Pos.of 1)) fun v1 => bndO K fun v89 h3 =>
  gtO (T.get fr (Pos.of 6)) fun v6 => bndO (oStore 5 v6 v89 h3) fun _u4 h4 =>
  Out.nor fr h4
def lvS158 (fr : F) (h : Hp) : Out :=
  gtO (T.get fr (Pos.of 7)) fun v7 => bndO (oFieldAddr 0 v7 h) fun v86 h0 =>
  bndO (oLoad1 v86 h0) fun v87 h1 =>
  gtO (T.get fr (Pos.of 1)) fun v1 => stopO (match v87 with | .func _ x y => x.list ++ ([v1] ++ y.list) | _ => []) h1
def lvC61 : Ctx := (.seqR Tryr61p_0 (.seqR Tryr61p_1 (.seqR (seqO Tryr61p_2 (cndX (.tmp 29) (seqO Tryr61p_3 Out.ret) Out.nor)) (.seqR Tryr61p_4 (.seqR Tryr61p_5 (.seqR Tryr61p_6 (.seqR Tryr61p_7 (.seqR (seqO Tryr61p_8 (cndX (.tmp 41) (seqO Tryr61p_9 (seqO (seqO Tryr61p_10 (cndX (.tmp 52) (seqO Tryr61p_11 Out.ret) Out.nor)) (seqO Tryr61p_12 Tryr61p_13))) Out.nor)) (.seqR (seqO Tryr61p_14 (cndX (.tmp 69) (seqO Tryr61p_15 Out.ret) Out.nor)) (.seqR Tryr61p_16 (.seqR (blkO 0 (seqO Tryr61p_17 (cndX (.tmp 77) (seqO Tryr61p_18 Out.ret) (seqO Tryr61p_19 (cndX (.tmp 82) (seqO Tryr61p_20 Out.ret) Out.nor))))) (.seqR Tryr61p_21 (.seqR (seqO Tryr61p_22 (cndX (.tmp 93) (seqO Tryr61p_23 (seqO Tryr61p_24 (cndX (.tmp 103) (seqO Tryr61p_25 Out.ret) Out.nor))) Out.nor)) (.seqR Tryr61p_26 (.seqL (.seqL .hole (seqO Tryr61p_28 (cndX (.tmp 129) (seqO Tryr61p_29 Out.ret) Out.nor))) (seqO Tryr61p_30 Out.ret))))))))))))))))
theorem lvD61 : Tryd61p = lvC61.fill Tryr61p_27 := rfl
def lvA61 (A : Fun) (fr : F) (h : Hp) : Out :=
  gtO (T.get fr (Pos.of 1)) fun w0_1 => bndO (oNilCheck w0_1 (bumpH 1 h)) fun v111 _ =>
  bndO (oFieldAddr 1 v111 (bumpH 1 h)) fun v112 _ =>
  bndO (oLoad1 v112 (bumpH 1 h)) fun v113 _ =>
  gtO (T.get fr (Pos.of 12)) fun w4_12 => alcO (aBuildSlice 3 [(.int .i64 0)] 1 [(0, 1, w4_12)]) fun ob5 mk5 =>
  gtO (T.get fr (Pos.of 7)) fun w6_7 => gtO (T.get fr (Pos.of 14)) fun w7_14 => gtO (T.get fr (Pos.of 5)) fun w8_5 => gtO (T.get fr (Pos.of 5)) fun w9_5 => bndO (oLenK 2 w9_5 (bumpH 1 h)) fun v120 _ =>
  bndO (oBin .sub .none v120 (.int .i64 1) (bumpH 1 h)) fun v121 _ =>
  bndO (oIdxS 3 w8_5 v121 (bumpH 1 h)) fun v122 _ =>
  bndO (oFieldAddr 1 v122 (bumpH 1 h)) fun v123 _ =>
  bndO (oLoad1 v123 (bumpH 1 h)) fun v124 _ =>
  bndO (A [v113, (mk5 (Hp.next h)), w6_7, w7_14, v124] (Hp.put (bumpH 1 h) (Hp.next h) (some ob5))) fun v125 h15 =>
  bndO (oExtract 0 v125 h15) fun v126 _ =>
  bndO (oExtract 1 v125 h15) fun v127 _ =>
  Out.nor (T.set (some v127) (Pos.of 13) fr) h15
def lvK61 (K : R V) (fr : F) (h : Hp) : Out :=
  gtO (T.get fr (Pos.of 1)) fun w0_1 => bndO (oNilCheck w0_1 (bumpH 1 h)) fun v111 _ =>
  bndO (oFieldAddr 1 v111 (bumpH 1 h)) fun v112 _ =>
  bndO (oLoad1 v112 (bumpH 1 h)) fun v113 _ =>
  gtO (T.get fr (Pos.of 12)) fun w4_12 => alcO (aBuildSlice 3 [(.int .i64 0)] 1 [(0, 1, w4_12)]) fun ob5 mk5 =>
  gtO (T.get fr (Pos.of 7)) fun w6_7 => gtO (T.get fr (Pos.of 14)) fun w7_14 => gtO (T.get fr (Pos.of 5)) fun w8_5 => gtO (T.get fr (Pos.of 5)) fun w9_5 => bndO (oLenK 2 w9_5 (bumpH 1 h)) fun v120 _ =>
  bndO (oBin .sub .none v120 (.int .i64 1) (bumpH 1 h)) fun v121 _ =>
  bndO (oIdxS 3 w8_5 v121 (bumpH 1 h)) fun v122 _ =>
  bndO (oFieldAddr 1 v122 (bumpH 1 h)) fun v123 _ =>
  bndO (oLoad1 v123 (bumpH 1 h)) fun v124 _ =>
  bndO K fun v125 h15 =>
  bndO (oExtract 0 v125 h15) fun v126 _ =>
  bndO (oExtract 1 v125 h15) fun v127 _ =>
  Out.nor (T.set (some v127) (Pos.of 13) fr) h15
def lvS61 (fr : F) (h : Hp) : Out :=
  gtO (T.get fr (Pos.of 1)) fun w0_1 => bndO (oNilCheck w0_1 (bumpH 1 h)) fun v111 _ =>
  bndO (oFieldAddr 1 v111 (bumpH 1 h)) fun v112 _ =>
  bndO (oLoad1 v112 (bumpH 1 h)) fun v113 _ =>
  gtO (T.get fr (Pos.of 12)) fun w4_12 => alcO (aBuildSlice 3 [(.int .i64 0)] 1 [(0, 1, w4_12)]) fun ob5 mk5 =>
  gtO (T.get fr (Pos.of 7)) fun w6_7 => gtO (T.get fr (Pos.of 14)) fun w7_14 => gtO (T.get fr (Pos.of 5)) fun w8_5 => gtO (T.get fr (Pos.of 5)) fun w9_5 => bndO (oLenK 2 w9_5 (bumpH 1 h)) fun v120 _ =>
  bndO (oBin .sub .none v120 (.int .i64 1) (bumpH 1 h)) fun v121 _ =>
  bndO (oIdxS 3 w8_5 v121 (bumpH 1 h)) fun v122 _ =>
  bndO (oFieldAddr 1 v122 (bumpH 1 h)) fun v123 _ =>
  bndO (oLoad1 v123 (bumpH 1 h)) fun v124 _ =>
  stopO [v113, (mk5 (Hp.next h)), w6_7, w7_14, v124] (Hp.put (bumpH 1 h) (Hp.next h) (some ob5))
def lvC122 : Ctx := (.seqR Tryr122p_0 (.seqR (seqO Tryr122p_1 (cndX (.tmp 22) (seqO Tryr122p_2 Out.ret) Out.nor)) (.seqL (.seqL .hole (cndX (.tmp 33) (seqO Tryr122p_4 Out.ret) Out.nor)) (seqO Tryr122p_5 (seqO (seqO Tryr122p_6 (cndX (.tmp 40) (seqO Tryr122p_7 Out.ret) Out.nor)) (seqO Tryr122p_8 (seqO (blkO 0 (seqO Tryr122p_9 (cndX (.tmp 48) (seqO Tryr122p_10 Out.ret) (seqO (seqO Tryr122p_11 (cndX (.tmp 51) Out.nor Tryr122p_12)) (cndX (.tmp 51) (seqO Tryr122p_13 Out.ret) (seqO (seqO Tryr122p_14 (cndX (.tmp 76) Out.nor Tryr122p_15)) (cndX (.tmp 76) (seqO Tryr122p_16 Out.ret) Out.nor))))))) (seqO Tryr122p_17 (seqO Tryr122p_18 (seqO Tryr122p_19 (seqO Tryr122p_20 (seqO (seqO Tryr122p_21 (cndX (.tmp 107) Tryr122p_22 Out.nor)) (seqO (seqO Tryr122p_23 (blkO 1 (loopO Tryb122p_24 lf))) (seqO Tryr122p_28 (seqO Tryr122p_29 (seqO Tryr122p_30 (seqO Tryr122p_31 Out.ret)))))))))))))))))
theorem lvD122 : Tryd122p = lvC122.fill Tryr122p_3 := rfl
def lvA122 (A1 A2 : V → Hp → R V) (fr : F) (h : Hp) : Out :=
  gtO (T.get fr (Pos.of 1)) fun v1 => bndO (oLenK 2 v1 h) fun v24 h1 =>
  bndO (oBin .eql .none v24 (.int .i64 0) h1) fun v25 h2 =>
  ifB v25 (Out.nor (T.set (some (.bool true)) (Pos.of 33) fr) h2) (gtO (T.get fr (Pos.of 3)) fun v3 => bndO (A1 v3 h2) fun v28 h5 =>
  ifB v28 (Out.nor (T.set (some (.bool true)) (Pos.of 33) fr) h5) (bndO (A2 v3 h5) fun v32 h9 =>
  Out.nor (T.set (some v32) (Pos.of 33) fr) h9))
def lvK122 (K1 : R V) (K2 : Hp → R V) (fr : F) (h : Hp) : Out :=
  gtO (T.get fr (Pos.of 1)) fun v1 => bndO (oLenK 2 v1 h) fun v24 h1 =>
  bndO (oBin .eql .none v24 (.int .i64 0) h1) fun v25 h2 =>
  ifB v25 (Out.nor (T.set (some (.bool true)) (Pos.of 33) fr) h2) (gtO (T.get fr (Pos.of 3)) fun v3 => bndO K1 fun v28 h5 =>
  ifB v28 (Out.nor (T.set (some (.bool true)) (Pos.of 33) fr) h5) (bndO (K2 h5) fun v32 h9 =>
  Out.nor (T.set (some v32) (Pos.of 33) fr) h9))
end Go.Proofs.ImT
