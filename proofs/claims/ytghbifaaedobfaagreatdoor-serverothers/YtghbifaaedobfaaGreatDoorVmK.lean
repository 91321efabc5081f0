/- Part of the value machine, or of a walk by it: lemmas that the claim's last text uses. No conditions. -/
import Derived.Test.YtghbifaaedobfaaGreatDoorVmJ
import Derived.Test.YtghbifaaedobfaaGreatDoorVmI
set_option linter.unusedVariables false
set_option linter.unusedSimpArgs false
set_option linter.unnecessarySimpa false
noncomputable section
namespace Go.Proofs.YtghbifaaedobfaaGreatDoor
open Go Go.Proofs Go.Vm
set_option linter.unusedVariables false
set_option maxRecDepth 100000
set_option maxHeartbeats 4000000
theorem awake_run : isT (TryzF7 [] (h0 TryzG)) = true := by kernel_rfl
/-- awake, in any heap: true, and the heap is left as it was -/
def TryzF7c : Fun := constB true
theorem Tryzc7c : CallOk Tryz.prog TryzG 7 TryzF7c := (isT_ok awake_run).elim fun h e => constB_ok Tryzc7 e
def TryzF16 : Fun := fun _ _ => .bad
theorem Tryzc16 : CallOk Tryz.prog TryzG 16 TryzF16 := fun _ _ _ _ _ _ _ e => by cases e
/-! 3: pillarbox/pillarboxlaw28.ServerNil -/
def Tryze3 : FuncId → Option Fun := fun f => match Nat.beq f 5 with | true => some TryzF5 | false => match Nat.beq f 6 with | true => some TryzF6 | false => match Nat.beq f 7 with | true => some TryzF7c | false => none
def Tryzp3 : Plans := fun id => none
def TryzF3 : Fun := funX Tryz.prog TryzG (fun _ => true) Tryze3 Tryzp3 lf Tryz.f3
theorem Tryzc3 : CallOk Tryz.prog TryzG 3 TryzF3 := funX_ok Tryzmix (callsOk_cons Tryzc5 (callsOk_cons Tryzc6 (callsOk_cons Tryzc7c callsOk_0))) Tryz.func3 (by kernel_rfl)

/-! 5: (*pillarbox/server.Server).Do -/
def Tryzk5p : Nat → Bool := fun t => memN t [0, 1, 3, 4, 6, 12, 13, 23, 32, 46]
def Tryzr5p_0 (fr : F) (h : Hp) : Out :=
  gtO (T.get fr (Pos.of 1)) fun v1 => bndO (oBox 24 v1 h) fun v3 h0 =>
  Out.nor (T.set (some .nils) (Pos.of 4) (T.set (some v3) (Pos.of 3) fr)) h0
def Tryzr5p_1 (fr : F) (h : Hp) : Out :=
  gtO (T.get fr (Pos.of 0)) fun v0 => bndO (oBin .eql (.ptr 8) v0 .nilp h) fun v6 h1 =>
  Out.nor (T.set (some v6) (Pos.of 6) fr) h1
def Tryzr5p_2 (fr : F) (h : Hp) : Out :=
  Out.nor (T.set (some .nils) (Pos.of 4) fr) h
def Tryzr5p_3 (fr : F) (h : Hp) : Out :=
  gtO (T.get fr (Pos.of 0)) fun v0 => bndO (oNilCheck v0 h) fun v8 h1 =>
  bndO (oFieldAddr 7 v8 h1) fun v9 h2 =>
  bndO (TryzF13 [v9, (.int .i64 1)] h2) fun v10 h3 =>
  Out.nor fr h3
def Tryzr5p_4 (fr : F) (h : Hp) : Out :=
  gtO (T.get fr (Pos.of 3)) fun v3 => bndO (oFieldAddr 0 v3 h) fun v11 h0 =>
  bndO (oLoad1 v11 h0) fun v12 h1 =>
  Out.nor (T.set (some v12) (Pos.of 12) fr) h1
def Tryzr5p_5 (fr : F) (h : Hp) : Out :=
  gtO (T.get fr (Pos.of 12)) fun v12 => bndO (oBin .eql .none v12 (.int .i64 1) h) fun v14 h0 =>
  Out.nor (T.set (some v14) (Pos.of 13) fr) h0
def Tryzr5p_6 (fr : F) (h : Hp) : Out :=
  gtO (T.get fr (Pos.of 12)) fun v12 => bndO (oBin .eql .none v12 (.int .i64 2) h) fun v15 h0 =>
  Out.nor (T.set (some v15) (Pos.of 13) fr) h0
def Tryzr5p_7 (fr : F) (h : Hp) : Out :=
  gtO (T.get fr (Pos.of 12)) fun v12 => bndO (oBin .eql .none v12 (.int .i64 3) h) fun v16 h0 =>
  Out.nor (T.set (some v16) (Pos.of 13) fr) h0
def Tryzr5p_8 (fr : F) (h : Hp) : Out :=
  gtO (T.get fr (Pos.of 0)) fun w2_0 => gtO (T.get fr (Pos.of 3)) fun w3_3 => bndO (oLoadN 4 w3_3 (bumpH 0 h)) fun v20 _ =>
  bndO (TryzF15 [w2_0, v20] (bumpH 0 h)) fun v21 h4 =>
  gtO (T.get fr (Pos.of 3)) fun w0_3 => bndO (oFieldAddr 1 w0_3 h4) fun v17 _ =>
  bndO (oLoad1 v17 h4) fun v18 _ => chk (fun h => oLoad1 v17 h) v18 (
  bndO (TryzF14 [v18, v21] h4) fun v22 h5 =>
  Out.nor (T.set (some v22) (Pos.of 4) fr) h5) 1 [(bumpH 0 h)]
def Tryzr5p_9 (fr : F) (h : Hp) : Out :=
  gtO (T.get fr (Pos.of 12)) fun v12 => bndO (oBin .eql .none v12 (.int .i64 4) h) fun v24 h0 =>
  Out.nor (T.set (some v24) (Pos.of 23) fr) h0
def Tryzr5p_10 (fr : F) (h : Hp) : Out :=
  gtO (T.get fr (Pos.of 3)) fun w0_3 => bndO (oFieldAddr 2 w0_3 (bumpH 0 h)) fun v25 _ =>
  bndO (oLoad1 v25 (bumpH 0 h)) fun v26 _ =>
  gtO (T.get fr (Pos.of 0)) fun w2_0 => bndO (oNilCheck w2_0 (bumpH 0 h)) fun v28 _ =>
  bndO (oFieldAddr 6 v28 (bumpH 0 h)) fun v29 _ =>
  bndO (oLoad1 v29 (bumpH 0 h)) fun v30 _ =>
  bndO (oBin .sub .none (.int .i64 253402300799) v30 (bumpH 0 h)) fun v31 _ =>
  bndO (oBin .gtr .none v26 v31 (bumpH 0 h)) fun v32 _ =>
  Out.nor (T.set (some v32) (Pos.of 32) fr) (bumpH 0 h)
def Tryzr5p_11 (fr : F) (h : Hp) : Out :=
  gtO (T.get fr (Pos.of 0)) fun v0 => bndO (oNilCheck v0 h) fun v34 h1 =>
  bndO (oFieldAddr 6 v34 h1) fun v35 h2 =>
  bndO (oStore 1 v35 (.int .i64 253402300799) h2) fun _u3 h3 =>
  Out.nor fr h3
def Tryzr5p_12 (fr : F) (h : Hp) : Out :=
  gtO (T.get fr (Pos.of 0)) fun w0_0 => bndO (oNilCheck w0_0 (bumpH 0 h)) fun v37 _ =>
  bndO (oFieldAddr 6 v37 (bumpH 0 h)) fun v38 _ =>
  bndO (oLoad1 v38 (bumpH 0 h)) fun v39 _ =>
  gtO (T.get fr (Pos.of 3)) fun w4_3 => bndO (oFieldAddr 2 w4_3 (bumpH 0 h)) fun v40 _ =>
  bndO (oLoad1 v40 (bumpH 0 h)) fun v41 _ =>
  bndO (oMax v41 (.int .i64 0) (bumpH 0 h)) fun v42 _ =>
  bndO (oBin .add .none v39 v42 (bumpH 0 h)) fun v43 _ =>
  bndO (oNilCheck w0_0 (bumpH 0 h)) fun v44 _ =>
  bndO (oFieldAddr 6 v44 (bumpH 0 h)) fun v45 _ =>
  bndO (oStore 1 v45 v43 (bumpH 0 h)) fun _u10 h10 =>
  Out.nor fr h10
def Tryzr5p_13 (fr : F) (h : Hp) : Out :=
  gtO (T.get fr (Pos.of 12)) fun v12 => bndO (oBin .eql .none v12 (.int .i64 5) h) fun v47 h0 =>
  Out.nor (T.set (some v47) (Pos.of 46) fr) h0
def Tryzr5p_14 (fr : F) (h : Hp) : Out :=
  gtO (T.get fr (Pos.of 0)) fun w0_0 => bndO (oNilCheck w0_0 (bumpH 0 h)) fun v49 _ =>
  bndO (oFieldAddr 1 v49 (bumpH 0 h)) fun v50 _ =>
  bndO (oLoad1 v50 (bumpH 0 h)) fun v51 _ =>
  gtO (T.get fr (Pos.of 0)) fun w4_0 => bndO (oNilCheck w4_0 (bumpH 0 h)) fun v53 _ =>
  bndO (oFieldAddr 0 v53 (bumpH 0 h)) fun v54 _ =>
  bndO (oLoad1 v54 (bumpH 0 h)) fun v55 _ =>
  gtO (T.get fr (Pos.of 0)) fun w8_0 => bndO (oNilCheck w8_0 (bumpH 0 h)) fun v57 _ =>
  bndO (oFieldAddr 6 v57 (bumpH 0 h)) fun v58 _ =>
  bndO (oLoad1 v58 (bumpH 0 h)) fun v59 _ =>
  gtO (T.get fr (Pos.of 3)) fun w12_3 => bndO (oFieldAddr 3 w12_3 (bumpH 0 h)) fun v60 _ =>
  bndO (oLoad1 v60 (bumpH 0 h)) fun v61 _ =>
  bndO (TryzF16 [v51, v55, v59, v61] (bumpH 0 h)) fun v62 h14 =>
  bndO (TryzF14 [(.int .i64 (-1)), v62] h14) fun v63 h15 =>
  Out.nor (T.set (some v63) (Pos.of 4) fr) h15
def Tryzr5p_15 (fr : F) (h : Hp) : Out :=
  Out.nor (T.set (some .nils) (Pos.of 4) fr) h
def Tryzd5p : F → Hp → Out := (seqO Tryzr5p_0 (seqO (seqO Tryzr5p_1 (cndX (.tmp 6) (seqO Tryzr5p_2 Out.ret) Out.nor)) (seqO Tryzr5p_3 (seqO (seqO Tryzr5p_4 (blkO 0 (seqO (seqO Tryzr5p_5 (cndX (.tmp 13) Out.nor (seqO Tryzr5p_6 (cndX (.tmp 13) Out.nor Tryzr5p_7)))) (cndX (.tmp 13) (seqO Tryzr5p_8 Out.ret) (seqO Tryzr5p_9 (cndX (.tmp 23) (seqO Tryzr5p_10 (cndX (.tmp 32) Tryzr5p_11 Tryzr5p_12)) (seqO Tryzr5p_13 (cndX (.tmp 46) (seqO Tryzr5p_14 Out.ret) Out.nor)))))))) (seqO Tryzr5p_15 Out.ret)))))
def Tryze5p : FuncId → Option Fun := fun f => match Nat.beq f 13 with | true => some TryzF13 | false => match Nat.beq f 15 with | true => some TryzF15 | false => match Nat.beq f 14 with | true => some TryzF14 | false => match Nat.beq f 16 with | true => some TryzF16 | false => none
def Tryzp5p : Plans := fun id => match Nat.beq id 8 with | true => some ([0, 1, 0, 0, 12, 31, 63], [(2, .pure), (3, .read 0), (4, .heavy), (0, .pure), (1, .read 1), (5, .heavy), (6, .pure)]) | false => match Nat.beq id 10 with | true => some ([0, 1, 0, 4, 12, 28, 60, 127], [(0, .pure), (1, .read 0), (2, .pure), (3, .pure), (4, .pure), (5, .read 0), (6, .pure), (7, .pure)]) | false => match Nat.beq id 12 with | true => some ([0, 1, 3, 7, 0, 16, 48, 127, 255, 511, 1023], [(0, .pure), (1, .pure), (2, .pure), (3, .read 0), (4, .pure), (5, .read 0), (6, .pure), (7, .pure), (8, .pure), (9, .pure), (10, .heavy)]) | false => match Nat.beq id 14 with | true => some ([0, 1, 3, 7, 0, 16, 48, 112, 0, 256, 768, 1792, 0, 4096, 16383, 32767, 65535], [(0, .pure), (1, .pure), (2, .pure), (3, .read 0), (4, .pure), (5, .pure), (6, .pure), (7, .read 0), (8, .pure), (9, .pure), (10, .pure), (11, .read 0), (12, .pure), (13, .read 0), (14, .heavy), (15, .heavy), (16, .pure)]) | false => none
def TryzF5p : Fun := funX Tryz.prog TryzG Tryzk5p Tryze5p Tryzp5p lf Tryz.f5
theorem TryzD5p : denX Tryz.prog TryzG Tryz.f5.ntmps Tryzk5p Tryze5p Tryzp5p lf (codeOf Tryz.f5) = Tryzd5p := by kernel_rfl
theorem TryzF5p_eq (x0 x1 : V) (h : Hp) : TryzF5p [x0, x1] h = outR Tryz.prog [.tmp 4] (Tryzd5p (T.set (some x1) (Pos.of 1) (T.set (some x0) (Pos.of 0) T.nil)) h) := funX_eq (by kernel_rfl) TryzD5p (by kernel_rfl) h
theorem Tryzc5p : CallOk Tryz.prog TryzG 5 TryzF5p := funX_ok Tryzmix (callsOk_cons Tryzc13 (callsOk_cons Tryzc15 (callsOk_cons Tryzc14 (callsOk_cons Tryzc16 callsOk_0)))) Tryz.func5 (by kernel_rfl)

/-! 4: pillarbox/pillarboxlaw28.ServerOthers -/
def Tryzk4 : Nat → Bool := fun t => memN t [0, 1, 2, 3, 8, 9, 10, 11, 14, 25, 39]
def Tryzr4_0 (fr : F) (h : Hp) : Out :=
  Out.nor (T.set (some (.bool false)) (Pos.of 8) fr) h
def Tryzr4_1 (fr : F) (h : Hp) : Out :=
  gtO (T.get fr (Pos.of 3)) fun v3 => bndO (oLenK 2 v3 h) fun v13 h1 =>
  bndO (oBin .gtr .none v13 (.int .i64 1000) h1) fun v14 h2 =>
  Out.nor (T.set (some v14) (Pos.of 14) fr) h2
def Tryzr4_2 (fr : F) (h : Hp) : Out :=
  bndO (TryzF7c [] h) fun v15 h0 =>
  Out.nor (T.set (some v15) (Pos.of 8) fr) h0
def Tryzr4_3 (fr : F) (h : Hp) : Out :=
  gtO (T.get fr (Pos.of 0)) fun v0 => bndO (oBin .eql .none v0 (.int .i64 1) h) fun v17 h1 =>
  ifB v17 (Out.nor (T.set (some (.bool true)) (Pos.of 25) fr) h1) (bndO (oBin .eql .none v0 (.int .i64 3) h1) fun v20 h4 =>
  ifB v20 (Out.nor (T.set (some (.bool true)) (Pos.of 25) fr) h4) (bndO (oBin .eql .none v0 (.int .i64 5) h4) fun v24 h8 =>
  Out.nor (T.set (some v24) (Pos.of 25) fr) h8))
def Tryzr4_4 (fr : F) (h : Hp) : Out :=
  gtO (T.get fr (Pos.of 0)) fun v0 => bndO (oBin .add .none v0 (.int .i64 10) h) fun v27 h1 =>
  Out.nor (T.set (some v27) (Pos.of 0) fr) h1
def Tryzr4_5 (fr : F) (h : Hp) : Out :=
  bndO (TryzF9 [] h) fun v29 h0 =>
  bndO (TryzF8 [v29] h0) fun v30 h1 =>
  bndO (oExtract 0 v30 h1) fun v31 h3 =>
  bndO (oExtract 1 v30 h3) fun v32 h4 =>
  Out.nor (T.set (some v32) (Pos.of 10) (T.set (some v31) (Pos.of 9) fr)) h4
def Tryzr4_6 (fr : F) (h : Hp) : Out :=
  gtO (T.get fr (Pos.of 10)) fun v10 => bndO (TryzF10 [v10] h) fun v34 h1 =>
  bndO (oBin .neq .none v34 (.int .i64 0) h1) fun v35 h2 =>
  ifB v35 (Out.nor (T.set (some (.bool true)) (Pos.of 39) fr) h2) (gtO (T.get fr (Pos.of 9)) fun v9 => bndO (oBin .eql (.ptr 8) v9 .nilp h2) fun v38 h5 =>
  Out.nor (T.set (some v38) (Pos.of 39) fr) h5)
def Tryzr4_7 (fr : F) (h : Hp) : Out :=
  Out.nor (T.set (some (.bool false)) (Pos.of 8) fr) h
def Tryzr4_8 (fr : F) (h : Hp) : Out :=
  gtO (T.get fr (Pos.of 9)) fun v9 => gtO (T.get fr (Pos.of 0)) fun v0 => gtO (T.get fr (Pos.of 1)) fun v1 => gtO (T.get fr (Pos.of 2)) fun v2 => gtO (T.get fr (Pos.of 3)) fun v3 => bndO (oBuild [(.int .i64 0), (.int .i64 0), (.int .i64 0), .nils] [(0, 1, v0), (1, 1, v1), (2, 1, v2), (3, 1, v3)] h) fun v45 h5 =>
  bndO (TryzF5p [v9, v45] h5) fun v46 h6 =>
  Out.nor (T.set (some v46) (Pos.of 11) fr) h6
def Tryzr4_9 (fr : F) (h : Hp) : Out :=
  gtO (T.get fr (Pos.of 11)) fun v11 => bndO (oLenK 2 v11 h) fun v48 h1 =>
  bndO (oBin .eql .none v48 (.int .i64 0) h1) fun v49 h2 =>
  ifB v49 (gtO (T.get fr (Pos.of 9)) fun v9 => bndO (TryzF6 [v9] h2) fun v52 h5 =>
  bndO (TryzF11 [v52] h5) fun v53 h6 =>
  bndO (oBin .eql .none v53 (.int .i64 1) h6) fun v54 h7 =>
  ifB v54 (bndO (TryzF6 [v9] h7) fun v58 h11 =>
  bndO (TryzF12 [v58] h11) fun v59 h12 =>
  bndO (oLenK 2 v59 h12) fun v60 h13 =>
  bndO (oBin .eql .none v60 (.int .i64 0) h13) fun v61 h14 =>
  ifB v61 (bndO (TryzF7c [] h14) fun v64 h17 =>
  Out.nor (T.set (some v64) (Pos.of 8) fr) h17) (Out.nor (T.set (some (.bool false)) (Pos.of 8) fr) h14)) (Out.nor (T.set (some (.bool false)) (Pos.of 8) fr) h7)) (Out.nor (T.set (some (.bool false)) (Pos.of 8) fr) h2)
def Tryzd4 : F → Hp → Out := (seqO Tryzr4_0 (seqO (seqO Tryzr4_1 (cndX (.tmp 14) (seqO Tryzr4_2 Out.ret) Out.nor)) (seqO (seqO Tryzr4_3 (cndX (.tmp 25) Tryzr4_4 Out.nor)) (seqO Tryzr4_5 (seqO (seqO Tryzr4_6 (cndX (.tmp 39) (seqO Tryzr4_7 Out.ret) Out.nor)) (seqO Tryzr4_8 (seqO Tryzr4_9 Out.ret)))))))
def Tryze4 : FuncId → Option Fun := fun f => match Nat.beq f 7 with | true => some TryzF7c | false => match Nat.beq f 9 with | true => some TryzF9 | false => match Nat.beq f 8 with | true => some TryzF8 | false => match Nat.beq f 10 with | true => some TryzF10 | false => match Nat.beq f 5 with | true => some TryzF5p | false => match Nat.beq f 6 with | true => some TryzF6 | false => match Nat.beq f 11 with | true => some TryzF11 | false => match Nat.beq f 12 with | true => some TryzF12 | false => none
def Tryzp4 : Plans := fun id => none
def TryzF4 : Fun := funX Tryz.prog TryzG Tryzk4 Tryze4 Tryzp4 lf Tryz.f4
theorem TryzD4 : denX Tryz.prog TryzG Tryz.f4.ntmps Tryzk4 Tryze4 Tryzp4 lf (codeOf Tryz.f4) = Tryzd4 := by kernel_rfl
theorem TryzF4_eq (x0 x1 x2 x3 : V) (h : Hp) : TryzF4 [x0, x1, x2, x3] h = outR Tryz.prog [.tmp 8] (Tryzd4 (T.set (some x3) (Pos.of 3) (T.set (some x2) (Pos.of 2) (T.set (some x1) (Pos.of 1) (T.set (some x0) (Pos.of 0) T.nil)))) h) := funX_eq (by kernel_rfl) TryzD4 (by kernel_rfl) h
theorem Tryzc4 : CallOk Tryz.prog TryzG 4 TryzF4 := funX_ok Tryzmix (callsOk_cons Tryzc7c (callsOk_cons Tryzc9 (callsOk_cons Tryzc8 (callsOk_cons Tryzc10 (callsOk_cons Tryzc5p (callsOk_cons Tryzc6 (callsOk_cons Tryzc11 (callsOk_cons Tryzc12 callsOk_0)))))))) Tryz.func4 (by kernel_rfl)

end Go.Proofs.YtghbifaaedobfaaGreatDoor
