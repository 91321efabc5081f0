/- Part of the value machine, or of a walk by it: lemmas that the claim's last text uses. No conditions. -/
import Derived.Test.YtnlbcbjgejpanaaGreatDoorSeImG
import Derived.Test.YtnlbcbjgejpanaaGreatDoorSeImH
import Derived.Test.YtnlbcbjgejpanaaGreatDoorSeEnB
set_option linter.unusedVariables false
set_option linter.unusedSimpArgs false
set_option linter.unnecessarySimpa false
noncomputable section
namespace Go.Proofs.Im
open Go Go.Proofs Go.Vm
set_option linter.unusedVariables false
set_option maxRecDepth 100000
set_option maxHeartbeats 4000000
abbrev tEv : TypeId := 36
abbrev tOut : TypeId := 49
abbrev tSv : TypeId := 24
abbrev ImF714 : Fun := Go.Proofs.ImE.TryF5c
theorem Imc714 : CallOk Tryz.prog TryG 5 ImF714 := Go.Proofs.ImE.Tryc5c
abbrev ImF14 : Fun := Go.Proofs.ImE.TryF7
theorem Imc14 : CallOk Tryz.prog TryG 7 ImF14 := Go.Proofs.ImE.Tryc7
abbrev ImF15 : Fun := Go.Proofs.ImE.TryF8
theorem Imc15 : CallOk Tryz.prog TryG 8 ImF15 := Go.Proofs.ImE.Tryc8
abbrev ImF711 : Fun := Go.Proofs.ImE.TryF6
theorem Imc711 : CallOk Tryz.prog TryG 6 ImF711 := Go.Proofs.ImE.Tryc6
abbrev ImF528 : Fun := Go.Proofs.ImE.TryF96
theorem Imc528 : CallOk Tryz.prog TryG 96 ImF528 := Go.Proofs.ImE.Tryc96
abbrev ImF538 : Fun := Go.Proofs.ImE.TryF194
theorem Imc538 : CallOk Tryz.prog TryG 194 ImF538 := Go.Proofs.ImE.Tryc194
def Imk527 : Nat → Bool := fun t => memN t [0, 2]
def Imr527_0 (fr : F) (h : Hp) : Out :=
  Out.nor (T.set (some (.bool false)) (Pos.of 2) fr) h
def Imr527_1 (fr : F) (h : Hp) : Out :=
  gtO (T.get fr (Pos.of 0)) fun v0 => bndO (oNilCheck v0 h) fun v4 h1 =>
  bndO (oFieldAddr 0 v4 h1) fun v5 h2 =>
  bndO (ImF538 [v5] h2) fun v6 h3 =>
  bndO (oBin .neq .none v6 (.int .u32 0) h3) fun v7 h4 =>
  Out.nor (T.set (some v7) (Pos.of 2) fr) h4
def Imd527 : F → Hp → Out := (seqO Imr527_0 (seqO Imr527_1 Out.ret))
def Ime527 : FuncId → Option Fun := fun f => match Nat.beq f 194 with | true => some ImF538 | false => none
def Imp527 : Plans := fun id => none
def ImF527 : Fun := funX Tryz.prog TryG Imk527 Ime527 Imp527 lf Tryz.f95
theorem ImD527 : denX Tryz.prog TryG Tryz.f95.ntmps Imk527 Ime527 Imp527 lf (codeOf Tryz.f95) = Imd527 := by kernel_rfl
theorem ImF527_eq (x0 : V) (h : Hp) : ImF527 [x0] h = outR Tryz.prog [.tmp 2] (Imd527 (T.set (some x0) (Pos.of 0) T.nil) h) := funX_eq (by kernel_rfl) ImD527 (by kernel_rfl) h
theorem Imc527 : CallOk Tryz.prog TryG 95 ImF527 := funX_ok Trymix (callsOk_cons Imc538 callsOk_0) Tryz.func95 (by kernel_rfl)
def Imk510 : Nat → Bool := fun t => memN t [0, 1, 8]
def Imr510_0 (fr : F) (h : Hp) : Out :=
  gtO (T.get fr (Pos.of 0)) fun v0 => bndO (oNilCheck v0 h) fun v5 h1 =>
  bndO (oFieldAddr 0 v5 h1) fun v6 h2 =>
  bndO (ImF527 [v6] h2) fun v7 h3 =>
  bndO (oUn .not v7 h3) fun v8 h4 =>
  Out.nor (T.set (some v8) (Pos.of 8) fr) h4
def Imr510_1 (fr : F) (h : Hp) : Out :=
  gtO (T.get fr (Pos.of 0)) fun v0 => gtO (T.get fr (Pos.of 1)) fun v1 => bndO (ImF528 [v0, v1] h) fun v11 h2 =>
  Out.nor fr h2
def Imd510 : F → Hp → Out := (seqO Imr510_0 (cndX (.tmp 8) Imr510_1 Out.nor))
def Ime510 : FuncId → Option Fun := fun f => match Nat.beq f 95 with | true => some ImF527 | false => match Nat.beq f 96 with | true => some ImF528 | false => none
def Imp510 : Plans := fun id => none
def ImF510 : Fun := funX Tryz.prog TryG Imk510 Ime510 Imp510 lf Tryz.f48
theorem ImD510 : denX Tryz.prog TryG Tryz.f48.ntmps Imk510 Ime510 Imp510 lf (codeOf Tryz.f48) = Imd510 := by kernel_rfl
theorem ImF510_eq (x0 x1 : V) (h : Hp) : ImF510 [x0, x1] h = outR Tryz.prog [] (Imd510 (T.set (some x1) (Pos.of 1) (T.set (some x0) (Pos.of 0) T.nil)) h) := funX_eq (by kernel_rfl) ImD510 (by kernel_rfl) h
theorem Imc510 : CallOk Tryz.prog TryG 48 ImF510 := funX_ok Trymix (callsOk_cons Imc527 (callsOk_cons Imc528 callsOk_0)) Tryz.func48 (by kernel_rfl)
def Imk703 : Nat → Bool := fun t => memN t [0, 1, 2, 4, 5, 21]
def Imr703_0 (fr : F) (h : Hp) : Out :=
  gtO (T.get fr (Pos.of 0)) fun v0 => bndO (oBox 24 v0 h) fun v2 h0 =>
  Out.nor (T.set (some (.bool false)) (Pos.of 5) (T.set (some .nilp) (Pos.of 4) (T.set (some v2) (Pos.of 2) fr))) h0
def Imr703_1 (fr : F) (h : Hp) : Out :=
  gtO (T.get fr (Pos.of 2)) fun v2 => bndO (oLoad1 v2 h) fun v6 h0 =>
  bndO (oNilCheck v6 h0) fun v7 h1 =>
  bndO (oFieldAddr 2 v7 h1) fun v8 h2 =>
  bndO (oFunc (.func 49) [] [v2] h2) fun v9 h3 =>
  bndO (ImF510 [v8, v9] h3) fun v10 h4 =>
  Out.nor fr h4
def Imr703_2 (fr : F) (h : Hp) : Out :=
  gtO (T.get fr (Pos.of 1)) fun v1 => bndO (oBin .lss .none v1 (.int .i64 0) h) fun v12 h1 =>
  ifB v12 (Out.nor (T.set (some (.bool true)) (Pos.of 21) fr) h1) (gtO (T.get fr (Pos.of 2)) fun v2 => bndO (oLoad1 v2 h1) fun v15 h4 =>
  bndO (oNilCheck v15 h4) fun v16 h5 =>
  bndO (oFieldAddr 5 v16 h5) fun v17 h6 =>
  bndO (oLoad1 v17 h6) fun v18 h7 =>
  bndO (oLenK 2 v18 h7) fun v19 h8 =>
  bndO (oBin .geq .none v1 v19 h8) fun v20 h9 =>
  Out.nor (T.set (some v20) (Pos.of 21) fr) h9)
def Imr703_3 (fr : F) (h : Hp) : Out :=
  Out.nor (T.set (some (.bool false)) (Pos.of 5) (T.set (some .nilp) (Pos.of 4) fr)) h
def Imr703_4 (fr : F) (h : Hp) : Out :=
  gtO (T.get fr (Pos.of 2)) fun v2 => bndO (oLoad1 v2 h) fun v22 h0 =>
  bndO (oNilCheck v22 h0) fun v23 h1 =>
  bndO (oFieldAddr 5 v23 h1) fun v24 h2 =>
  bndO (oLoad1 v24 h2) fun v25 h3 =>
  gtO (T.get fr (Pos.of 1)) fun v1 => bndO (oIdxS 1 v25 v1 h3) fun v27 h5 =>
  Out.nor (T.set (some (.bool true)) (Pos.of 5) (T.set (some v27) (Pos.of 4) fr)) h5
def Imd703 : F → Hp → Out := (seqO Imr703_0 (seqO Imr703_1 (seqO (seqO Imr703_2 (cndX (.tmp 21) (seqO Imr703_3 Out.ret) Out.nor)) (seqO Imr703_4 Out.ret))))
def Ime703 : FuncId → Option Fun := fun f => match Nat.beq f 48 with | true => some ImF510 | false => none
def Imp703 : Plans := fun id => none
def ImF703 : Fun := funX Tryz.prog TryG Imk703 Ime703 Imp703 lf Tryz.f27
theorem ImD703 : denX Tryz.prog TryG Tryz.f27.ntmps Imk703 Ime703 Imp703 lf (codeOf Tryz.f27) = Imd703 := by kernel_rfl
theorem ImF703_eq (x0 x1 : V) (h : Hp) : ImF703 [x0, x1] h = outR Tryz.prog [.tmp 4, .tmp 5] (Imd703 (T.set (some x1) (Pos.of 1) (T.set (some x0) (Pos.of 0) T.nil)) h) := funX_eq (by kernel_rfl) ImD703 (by kernel_rfl) h
theorem Imc703 : CallOk Tryz.prog TryG 27 ImF703 := funX_ok Trymix (callsOk_cons Imc510 callsOk_0) Tryz.func27 (by kernel_rfl)
def Imk701 : Nat → Bool := fun t => memN t [0, 1, 4, 6]
def Imr701_0 (fr : F) (h : Hp) : Out :=
  Out.nor (T.set (some .nils) (Pos.of 4) fr) h
def Imr701_1 (fr : F) (h : Hp) : Out :=
  gtO (T.get fr (Pos.of 1)) fun v1 => bndO (oBin .eql .none v1 (.str []) h) fun v6 h1 =>
  Out.nor (T.set (some v6) (Pos.of 6) fr) h1
def Imr701_2 (fr : F) (h : Hp) : Out :=
  Out.nor (T.set (some .nils) (Pos.of 4) fr) h
def Imr701_3 (fr : F) (h : Hp) : Out :=
  gtO (T.get fr (Pos.of 0)) fun v0 => gtO (T.get fr (Pos.of 1)) fun v1 => bndO (oBuild [(.int .i64 0), (.str [])] [(0, 1, v0), (1, 1, v1)] h) fun v9 h2 =>
  bndO (oBuildSlice 49 [(.int .i64 0), (.str [])] 1 [(0, 2, v9)] h2) fun v10 h3 =>
  Out.nor (T.set (some v10) (Pos.of 4) fr) h3
def Imd701 : F → Hp → Out := (seqO Imr701_0 (seqO (seqO Imr701_1 (cndX (.tmp 6) (seqO Imr701_2 Out.ret) Out.nor)) (seqO Imr701_3 Out.ret)))
def Ime701 : FuncId → Option Fun := fun f => none
def Imp701 : Plans := fun id => none
def ImF701 : Fun := funX Tryz.prog TryG Imk701 Ime701 Imp701 lf Tryz.f17
theorem ImD701 : denX Tryz.prog TryG Tryz.f17.ntmps Imk701 Ime701 Imp701 lf (codeOf Tryz.f17) = Imd701 := by kernel_rfl
theorem ImF701_eq (x0 x1 : V) (h : Hp) : ImF701 [x0, x1] h = outR Tryz.prog [.tmp 4] (Imd701 (T.set (some x1) (Pos.of 1) (T.set (some x0) (Pos.of 0) T.nil)) h) := funX_eq (by kernel_rfl) ImD701 (by kernel_rfl) h
theorem Imc701 : CallOk Tryz.prog TryG 17 ImF701 := funX_ok Trymix callsOk_0 Tryz.func17 (by kernel_rfl)
abbrev ImF40 : Fun := TryF13
theorem Imc40 : CallOk Tryz.prog TryG 29 ImF40 := Tryc13
abbrev ImF41 : Fun := TryF16
theorem Imc41 : CallOk Tryz.prog TryG 69 ImF41 := Tryc16
def Imk16 : Nat → Bool := fun t => memN t [0]
def Ime16 : FuncId → Option Fun := fun f => none
def Imp16 : Plans := fun id => none
def ImF16 : Fun := funX Tryz.prog TryG Imk16 Ime16 Imp16 lf Tryz.f31
theorem Imc16 : CallOk Tryz.prog TryG 31 ImF16 := funX_ok Trymix callsOk_0 Tryz.func31 (by kernel_rfl)
def Imk704 : Nat → Bool := fun t => memN t [0, 1, 2, 6, 7, 9, 10, 11, 19, 20, 21, 22, 48]
def Imr704_0 (fr : F) (h : Hp) : Out :=
  Out.nor (T.set (some (.str [])) (Pos.of 6) fr) h
def Imr704_1 (fr : F) (h : Hp) : Out :=
  Out.nor (T.set (some (.str [])) (Pos.of 7) fr) h
def Imr704_2 (fr : F) (h : Hp) : Out :=
  gtO (T.get fr (Pos.of 1)) fun v1 => bndO (oNilCheck v1 h) fun v13 h1 =>
  bndO (oLoad1 v13 h1) fun v14 h2 =>
  bndO (oNilCheck v14 h2) fun v15 h3 =>
  bndO (oFieldAddr 1 v15 h3) fun v16 h4 =>
  bndO (oLoad1 v16 h4) fun v17 h5 =>
  gtO (T.get fr (Pos.of 2)) fun v2 => bndO (ImF41 [v17, v2] h5) fun v19 h7 =>
  bndO (oLenK 2 v19 h7) fun v20 h8 =>
  Out.nor (T.set (some (.int .i64 0)) (Pos.of 21) (T.set (some v20) (Pos.of 20) (T.set (some v19) (Pos.of 19) fr))) h8
def Imr704_3 (fr : F) (h : Hp) : Out :=
  gtO (T.get fr (Pos.of 21)) fun v21 => gtO (T.get fr (Pos.of 20)) fun v20 => bndO (oBin .lss .none v21 v20 h) fun v22 h0 =>
  Out.nor (T.set (some v22) (Pos.of 22) fr) h0
def Imr704_4 (fr : F) (h : Hp) : Out :=
  gtO (T.get fr (Pos.of 19)) fun v19 => gtO (T.get fr (Pos.of 21)) fun v21 => bndO (oIdxS 2 v19 v21 h) fun v23 h0 =>
  bndO (oLoadN 2 v23 h0) fun v24 h1 =>
  bndO (oNew 155 [(.int .i64 0), .nils] h1) fun v9 h2 =>
  bndO (oStore 2 v9 v24 h2) fun _u3 h3 =>
  Out.nor (T.set (some v9) (Pos.of 9) fr) h3
def Imr704_5 (fr : F) (h : Hp) : Out :=
  gtO (T.get fr (Pos.of 1)) fun w0_1 => bndO (oNilCheck w0_1 (bumpH 0 h)) fun v27 _ =>
  bndO (oLoad1 v27 (bumpH 0 h)) fun v28 _ =>
  bndO (oNilCheck v28 (bumpH 0 h)) fun v29 _ =>
  bndO (oFieldAddr 0 v29 (bumpH 0 h)) fun v30 _ =>
  bndO (oLoad1 v30 (bumpH 0 h)) fun v31 _ =>
  gtO (T.get fr (Pos.of 0)) fun w6_0 => bndO (oNilCheck w6_0 (bumpH 0 h)) fun v33 _ =>
  bndO (oFieldAddr 0 v33 (bumpH 0 h)) fun v34 _ =>
  bndO (oLoad1 v34 (bumpH 0 h)) fun v35 _ =>
  gtO (T.get fr (Pos.of 0)) fun w10_0 => bndO (oNilCheck w10_0 (bumpH 0 h)) fun v37 _ =>
  bndO (oFieldAddr 6 v37 (bumpH 0 h)) fun v38 _ =>
  bndO (oLoad1 v38 (bumpH 0 h)) fun v39 _ =>
  gtO (T.get fr (Pos.of 9)) fun w14_9 => bndO (oLoadN 2 w14_9 (bumpH 0 h)) fun v40 _ =>
  bndO (ImF42 [v31, v35, v39, v40] (bumpH 0 h)) fun v41 h15 =>
  bndO (oExtract 0 v41 h15) fun v42 _ =>
  bndO (oExtract 1 v41 h15) fun v43 _ =>
  Out.nor (T.set (some v43) (Pos.of 11) (T.set (some v42) (Pos.of 10) fr)) h15
def Imr704_6 (fr : F) (h : Hp) : Out :=
  gtO (T.get fr (Pos.of 7)) fun v7 => gtO (T.get fr (Pos.of 10)) fun v10 => bndO (oBin .add .none v7 v10 h) fun v46 h2 =>
  Out.nor (T.set (some v46) (Pos.of 7) fr) h2
def Imr704_7 (fr : F) (h : Hp) : Out :=
  gtO (T.get fr (Pos.of 11)) fun v11 => bndO (oUn .not v11 h) fun v48 h1 =>
  Out.nor (T.set (some v48) (Pos.of 48) fr) h1
def Imr704_8 (fr : F) (h : Hp) : Out :=
  gtO (T.get fr (Pos.of 1)) fun v1 => bndO (oNilCheck v1 h) fun v50 h1 =>
  bndO (oStore 1 v50 .nilp h1) fun _u2 h2 =>
  Out.nor fr h2
def Imr704_9 (fr : F) (h : Hp) : Out :=
  gtO (T.get fr (Pos.of 21)) fun v21 => bndO (oBin .add .none v21 (.int .i64 1) h) fun v51 h0 =>
  Out.nor (T.set (some v51) (Pos.of 21) fr) h0
def Imr704_10 (fr : F) (h : Hp) : Out :=
  gtO (T.get fr (Pos.of 7)) fun v7 => Out.nor (T.set (some v7) (Pos.of 6) fr) h
def Imb704_3 : F → Hp → Out := (seqO Imr704_3 (seqO (cndX (.tmp 22) Out.nor (Out.ex 0)) (seqO (blkO 1 (seqO Imr704_4 (seqO Imr704_5 (seqO Imr704_6 (seqO Imr704_7 (cndX (.tmp 48) (seqO Imr704_8 (Out.ex 0)) Out.nor)))))) Imr704_9)))
def Imd704 : F → Hp → Out := (seqO Imr704_0 (seqO Imr704_1 (seqO (seqO Imr704_2 (blkO 0 (loopO Imb704_3 lf))) (seqO Imr704_10 Out.ret))))
def Ime704 : FuncId → Option Fun := fun f => match Nat.beq f 69 with | true => some ImF41 | false => match Nat.beq f 70 with | true => some ImF42 | false => none
def Imp704 : Plans := fun id => match Nat.beq id 5 with | true => some ([0, 1, 3, 7, 15, 31, 0, 64, 192, 448, 0, 1024, 3072, 7168, 0, 32767, 65535, 131071, 131071, 262143, 1048575], [(0, .pure), (1, .pure), (2, .read 0), (3, .pure), (4, .pure), (5, .read 0), (6, .pure), (7, .pure), (8, .pure), (9, .read 0), (10, .pure), (11, .pure), (12, .pure), (13, .read 0), (14, .read 0), (15, .heavy), (16, .pure), (17, .pure), (18, .pure), (19, .pure), (20, .pure)]) | false => none
def ImF704 : Fun := funX Tryz.prog TryG Imk704 Ime704 Imp704 lf Tryz.f32
theorem ImD704 : denX Tryz.prog TryG Tryz.f32.ntmps Imk704 Ime704 Imp704 lf (codeOf Tryz.f32) = Imd704 := by kernel_rfl
theorem ImF704_eq (x0 x1 x2 : V) (h : Hp) : ImF704 [x0, x1, x2] h = outR Tryz.prog [.tmp 6] (Imd704 (T.set (some x2) (Pos.of 2) (T.set (some x1) (Pos.of 1) (T.set (some x0) (Pos.of 0) T.nil))) h) := funX_eq (by kernel_rfl) ImD704 (by kernel_rfl) h
theorem Imc704 : CallOk Tryz.prog TryG 32 ImF704 := funX_ok Trymix (callsOk_cons Imc41 (callsOk_cons Imc42 callsOk_0)) Tryz.func32 (by kernel_rfl)
def Imk702 : Nat → Bool := fun t => memN t [0, 1, 3, 4, 5, 6, 14, 17, 40, 46]
def Imr702_0 (fr : F) (h : Hp) : Out :=
  gtO (T.get fr (Pos.of 1)) fun v1 => bndO (oBox 36 v1 h) fun v3 h0 =>
  Out.nor (T.set (some (.str [])) (Pos.of 4) (T.set (some v3) (Pos.of 3) fr)) h0
def Imr702_1 (fr : F) (h : Hp) : Out :=
  gtO (T.get fr (Pos.of 0)) fun v0 => gtO (T.get fr (Pos.of 3)) fun v3 => bndO (oFieldAddr 1 v3 h) fun v9 h1 =>
  bndO (oLoad1 v9 h1) fun v10 h2 =>
  bndO (ImF703 [v0, v10] h2) fun v11 h3 =>
  bndO (oExtract 0 v11 h3) fun v12 h5 =>
  bndO (oExtract 1 v11 h5) fun v13 h6 =>
  Out.nor (T.set (some v13) (Pos.of 6) (T.set (some v12) (Pos.of 5) fr)) h6
def Imr702_2 (fr : F) (h : Hp) : Out :=
  gtO (T.get fr (Pos.of 6)) fun v6 => bndO (oUn .not v6 h) fun v16 h1 =>
  Out.nor (T.set (some v16) (Pos.of 14) fr) h1
def Imr702_3 (fr : F) (h : Hp) : Out :=
  gtO (T.get fr (Pos.of 3)) fun v3 => bndO (oFieldAddr 0 v3 h) fun v18 h0 =>
  bndO (oLoad1 v18 h0) fun v19 h1 =>
  bndO (oBin .eql .none v19 (.int .i64 1) h1) fun v20 h2 =>
  ifB v20 (gtO (T.get fr (Pos.of 5)) fun v5 => bndO (oNilCheck v5 h2) fun v23 h5 =>
  bndO (oLoad1 v23 h5) fun v24 h6 =>
  bndO (oBin .eql (.ptr 2) v24 .nilp h6) fun v25 h7 =>
  Out.nor (T.set (some v25) (Pos.of 17) fr) h7) (Out.nor (T.set (some (.bool false)) (Pos.of 17) fr) h2)
def Imr702_4 (fr : F) (h : Hp) : Out :=
  bndO (ImF7 [] (bumpH 1 h)) fun v28 h1 =>
  gtO (T.get fr (Pos.of 0)) fun w2_0 => bndO (oNilCheck w2_0 h1) fun v30 _ =>
  bndO (oFieldAddr 0 v30 h1) fun v31 _ =>
  bndO (oLoad1 v31 h1) fun v32 _ => chk (fun h => oLoad1 v31 h) v32 (
  bndO (ImF59 [v32] h1) fun v33 h6 =>
  bndO (oPart false 1 4 v33 h6) fun v34 h7 =>
  bndO (ImF40 [v34] h7) fun v35 h8 =>
  gtO (T.get fr (Pos.of 5)) fun w0_5 => bndO (oBuild [.nilp, .nilp] [(0, 1, v28), (1, 1, v35)] h8) fun v36 _ =>
  alcO (aBox 110 v36) fun ob10 mk10 =>
  bndO (oNilCheck w0_5 h8) fun v38 _ =>
  bndO (oStore 1 v38 (mk10 (Hp.next h)) (Hp.put h8 (Hp.next h) (some ob10))) fun _u12 h12 =>
  Out.nor fr h12) 1 [(bumpH 1 h)]
def Imr702_5 (fr : F) (h : Hp) : Out :=
  bndO (ImF16 [] h) fun v39 h0 =>
  Out.nor (T.set (some v39) (Pos.of 4) fr) h0
def Imr702_6 (fr : F) (h : Hp) : Out :=
  gtO (T.get fr (Pos.of 3)) fun v3 => bndO (oFieldAddr 0 v3 h) fun v41 h0 =>
  bndO (oLoad1 v41 h0) fun v42 h1 =>
  bndO (oBin .eql .none v42 (.int .i64 2) h1) fun v43 h2 =>
  Out.nor (T.set (some v43) (Pos.of 40) fr) h2
def Imr702_7 (fr : F) (h : Hp) : Out :=
  gtO (T.get fr (Pos.of 5)) fun v5 => bndO (oNilCheck v5 h) fun v45 h1 =>
  bndO (oStore 1 v45 .nilp h1) fun _u2 h2 =>
  Out.nor fr h2
def Imr702_8 (fr : F) (h : Hp) : Out :=
  gtO (T.get fr (Pos.of 3)) fun v3 => bndO (oFieldAddr 0 v3 h) fun v47 h0 =>
  bndO (oLoad1 v47 h0) fun v48 h1 =>
  bndO (oBin .eql .none v48 (.int .i64 3) h1) fun v49 h2 =>
  ifB v49 (gtO (T.get fr (Pos.of 5)) fun v5 => bndO (oNilCheck v5 h2) fun v52 h5 =>
  bndO (oLoad1 v52 h5) fun v53 h6 =>
  bndO (oBin .neq (.ptr 2) v53 .nilp h6) fun v54 h7 =>
  Out.nor (T.set (some v54) (Pos.of 46) fr) h7) (Out.nor (T.set (some (.bool false)) (Pos.of 46) fr) h2)
def Imr702_9 (fr : F) (h : Hp) : Out :=
  gtO (T.get fr (Pos.of 0)) fun v0 => gtO (T.get fr (Pos.of 5)) fun v5 => gtO (T.get fr (Pos.of 3)) fun v3 => bndO (oFieldAddr 3 v3 h) fun v58 h2 =>
  bndO (oLoad1 v58 h2) fun v59 h3 =>
  bndO (ImF704 [v0, v5, v59] h3) fun v60 h4 =>
  Out.nor (T.set (some v60) (Pos.of 4) fr) h4
def Imr702_10 (fr : F) (h : Hp) : Out :=
  Out.nor (T.set (some (.str [])) (Pos.of 4) fr) h
def Imd702 : F → Hp → Out := (seqO Imr702_0 (seqO Imr702_1 (seqO (blkO 0 (seqO Imr702_2 (cndX (.tmp 14) Out.nor (seqO Imr702_3 (cndX (.tmp 17) (seqO Imr702_4 (seqO Imr702_5 Out.ret)) (seqO Imr702_6 (cndX (.tmp 40) Imr702_7 (seqO Imr702_8 (cndX (.tmp 46) (seqO Imr702_9 Out.ret) Out.nor))))))))) (seqO Imr702_10 Out.ret))))
def Ime702 : FuncId → Option Fun := fun f => match Nat.beq f 27 with | true => some ImF703 | false => match Nat.beq f 28 with | true => some ImF7 | false => match Nat.beq f 30 with | true => some ImF59 | false => match Nat.beq f 29 with | true => some ImF40 | false => match Nat.beq f 31 with | true => some ImF16 | false => match Nat.beq f 32 with | true => some ImF704 | false => none
def Imp702 : Plans := fun id => match Nat.beq id 4 with | true => some ([0, 0, 0, 4, 12, 28, 62, 126, 254, 510, 1022, 2047, 4095], [(1, .heavy), (2, .pure), (3, .pure), (4, .pure), (5, .read 1), (6, .heavy), (7, .heavy), (8, .heavy), (0, .pure), (9, .pure), (10, .alloc), (11, .pure), (12, .heavy)]) | false => none
def ImF702 : Fun := funX Tryz.prog TryG Imk702 Ime702 Imp702 lf Tryz.f18
theorem ImD702 : denX Tryz.prog TryG Tryz.f18.ntmps Imk702 Ime702 Imp702 lf (codeOf Tryz.f18) = Imd702 := by kernel_rfl
theorem ImF702_eq (x0 x1 : V) (h : Hp) : ImF702 [x0, x1] h = outR Tryz.prog [.tmp 4] (Imd702 (T.set (some x1) (Pos.of 1) (T.set (some x0) (Pos.of 0) T.nil)) h) := funX_eq (by kernel_rfl) ImD702 (by kernel_rfl) h
theorem Imc702 : CallOk Tryz.prog TryG 18 ImF702 := funX_ok Trymix (callsOk_cons Imc703 (callsOk_cons Imc7 (callsOk_cons Imc59 (callsOk_cons Imc40 (callsOk_cons Imc16 (callsOk_cons Imc704 callsOk_0)))))) Tryz.func18 (by kernel_rfl)
def ImF718 : Fun := fun _ _ => .bad
theorem Imc718 : CallOk Tryz.prog TryG 19 ImF718 := fun _ _ _ _ _ _ _ e => by cases e
def Imk700 : Nat → Bool := fun t => memN t [0, 1, 3, 4, 6, 12, 13, 23, 32, 46]
def Imr700_0 (fr : F) (h : Hp) : Out :=
  gtO (T.get fr (Pos.of 1)) fun v1 => bndO (oBox 36 v1 h) fun v3 h0 =>
  Out.nor (T.set (some .nils) (Pos.of 4) (T.set (some v3) (Pos.of 3) fr)) h0
def Imr700_1 (fr : F) (h : Hp) : Out :=
  gtO (T.get fr (Pos.of 0)) fun v0 => bndO (oBin .eql (.ptr 8) v0 .nilp h) fun v6 h1 =>
  Out.nor (T.set (some v6) (Pos.of 6) fr) h1
def Imr700_2 (fr : F) (h : Hp) : Out :=
  Out.nor (T.set (some .nils) (Pos.of 4) fr) h
def Imr700_3 (fr : F) (h : Hp) : Out :=
  gtO (T.get fr (Pos.of 0)) fun v0 => bndO (oNilCheck v0 h) fun v8 h1 =>
  bndO (oFieldAddr 7 v8 h1) fun v9 h2 =>
  bndO (ImF120 [v9, (.int .i64 1)] h2) fun v10 h3 =>
  Out.nor fr h3
def Imr700_4 (fr : F) (h : Hp) : Out :=
  gtO (T.get fr (Pos.of 3)) fun v3 => bndO (oFieldAddr 0 v3 h) fun v11 h0 =>
  bndO (oLoad1 v11 h0) fun v12 h1 =>
  Out.nor (T.set (some v12) (Pos.of 12) fr) h1
def Imr700_5 (fr : F) (h : Hp) : Out :=
  gtO (T.get fr (Pos.of 12)) fun v12 => bndO (oBin .eql .none v12 (.int .i64 1) h) fun v14 h0 =>
  Out.nor (T.set (some v14) (Pos.of 13) fr) h0
def Imr700_6 (fr : F) (h : Hp) : Out :=
  gtO (T.get fr (Pos.of 12)) fun v12 => bndO (oBin .eql .none v12 (.int .i64 2) h) fun v15 h0 =>
  Out.nor (T.set (some v15) (Pos.of 13) fr) h0
def Imr700_7 (fr : F) (h : Hp) : Out :=
  gtO (T.get fr (Pos.of 12)) fun v12 => bndO (oBin .eql .none v12 (.int .i64 3) h) fun v16 h0 =>
  Out.nor (T.set (some v16) (Pos.of 13) fr) h0
def Imr700_8 (fr : F) (h : Hp) : Out :=
  gtO (T.get fr (Pos.of 0)) fun w2_0 => gtO (T.get fr (Pos.of 3)) fun w3_3 => bndO (oLoadN 4 w3_3 (bumpH 0 h)) fun v20 _ =>
  bndO (ImF702 [w2_0, v20] (bumpH 0 h)) fun v21 h4 =>
  gtO (T.get fr (Pos.of 3)) fun w0_3 => bndO (oFieldAddr 1 w0_3 h4) fun v17 _ =>
  bndO (oLoad1 v17 h4) fun v18 _ => chk (fun h => oLoad1 v17 h) v18 (
  bndO (ImF701 [v18, v21] h4) fun v22 h5 =>
  Out.nor (T.set (some v22) (Pos.of 4) fr) h5) 1 [(bumpH 0 h)]
def Imr700_9 (fr : F) (h : Hp) : Out :=
  gtO (T.get fr (Pos.of 12)) fun v12 => bndO (oBin .eql .none v12 (.int .i64 4) h) fun v24 h0 =>
  Out.nor (T.set (some v24) (Pos.of 23) fr) h0
def Imr700_10 (fr : F) (h : Hp) : Out :=
  gtO (T.get fr (Pos.of 3)) fun w0_3 => bndO (oFieldAddr 2 w0_3 (bumpH 0 h)) fun v25 _ =>
  bndO (oLoad1 v25 (bumpH 0 h)) fun v26 _ =>
  gtO (T.get fr (Pos.of 0)) fun w2_0 => bndO (oNilCheck w2_0 (bumpH 0 h)) fun v28 _ =>
  bndO (oFieldAddr 6 v28 (bumpH 0 h)) fun v29 _ =>
  bndO (oLoad1 v29 (bumpH 0 h)) fun v30 _ =>
  bndO (oBin .sub .none (.int .i64 253402300799) v30 (bumpH 0 h)) fun v31 _ =>
  bndO (oBin .gtr .none v26 v31 (bumpH 0 h)) fun v32 _ =>
  Out.nor (T.set (some v32) (Pos.of 32) fr) (bumpH 0 h)
def Imr700_11 (fr : F) (h : Hp) : Out :=
  gtO (T.get fr (Pos.of 0)) fun v0 => bndO (oNilCheck v0 h) fun v34 h1 =>
  bndO (oFieldAddr 6 v34 h1) fun v35 h2 =>
  bndO (oStore 1 v35 (.int .i64 253402300799) h2) fun _u3 h3 =>
  Out.nor fr h3
def Imr700_12 (fr : F) (h : Hp) : Out :=
  gtO (T.get fr (Pos.of 0)) fun w0_0 => bndO (oNilCheck w0_0 (bumpH 0 h)) fun v37 _ =>
  bndO (oFieldAddr 6 v37 (bumpH 0 h)) fun v38 _ =>
  bndO (oLoad1 v38 (bumpH 0 h)) fun v39 _ =>
  gtO (T.get fr (Pos.of 3)) fun w4_3 => bndO (oFieldAddr 2 w4_3 (bumpH 0 h)) fun v40 _ =>
  bndO (oLoad1 v40 (bumpH 0 h)) fun v41 _ =>
  bndO (oMax v41 (.int .i64 0) (bumpH 0 h)) fun v42 _ =>
  bndO (oBin .add .none v39 v42 (bumpH 0 h)) fun v43 _ =>
  bndO (oNilCheck w0_0 (bumpH 0 h)) fun v44 _ =>
  bndO (oFieldAddr 6 v44 (bumpH 0 h)) fun v45 _ =>
  bndO (oStore 1 v45 v43 (bumpH 0 h)) fun _u10 h10 =>
  Out.nor fr h10
def Imr700_13 (fr : F) (h : Hp) : Out :=
  gtO (T.get fr (Pos.of 12)) fun v12 => bndO (oBin .eql .none v12 (.int .i64 5) h) fun v47 h0 =>
  Out.nor (T.set (some v47) (Pos.of 46) fr) h0
def Imr700_14 (fr : F) (h : Hp) : Out :=
  gtO (T.get fr (Pos.of 0)) fun w0_0 => bndO (oNilCheck w0_0 (bumpH 0 h)) fun v49 _ =>
  bndO (oFieldAddr 1 v49 (bumpH 0 h)) fun v50 _ =>
  bndO (oLoad1 v50 (bumpH 0 h)) fun v51 _ =>
  gtO (T.get fr (Pos.of 0)) fun w4_0 => bndO (oNilCheck w4_0 (bumpH 0 h)) fun v53 _ =>
  bndO (oFieldAddr 0 v53 (bumpH 0 h)) fun v54 _ =>
  bndO (oLoad1 v54 (bumpH 0 h)) fun v55 _ =>
  gtO (T.get fr (Pos.of 0)) fun w8_0 => bndO (oNilCheck w8_0 (bumpH 0 h)) fun v57 _ =>
  bndO (oFieldAddr 6 v57 (bumpH 0 h)) fun v58 _ =>
  bndO (oLoad1 v58 (bumpH 0 h)) fun v59 _ =>
  gtO (T.get fr (Pos.of 3)) fun w12_3 => bndO (oFieldAddr 3 w12_3 (bumpH 0 h)) fun v60 _ =>
  bndO (oLoad1 v60 (bumpH 0 h)) fun v61 _ =>
  bndO (ImF718 [v51, v55, v59, v61] (bumpH 0 h)) fun v62 h14 =>
  bndO (ImF701 [(.int .i64 (-1)), v62] h14) fun v63 h15 =>
  Out.nor (T.set (some v63) (Pos.of 4) fr) h15
def Imr700_15 (fr : F) (h : Hp) : Out :=
  Out.nor (T.set (some .nils) (Pos.of 4) fr) h
def Imd700 : F → Hp → Out := (seqO Imr700_0 (seqO (seqO Imr700_1 (cndX (.tmp 6) (seqO Imr700_2 Out.ret) Out.nor)) (seqO Imr700_3 (seqO (seqO Imr700_4 (blkO 0 (seqO (seqO Imr700_5 (cndX (.tmp 13) Out.nor (seqO Imr700_6 (cndX (.tmp 13) Out.nor Imr700_7)))) (cndX (.tmp 13) (seqO Imr700_8 Out.ret) (seqO Imr700_9 (cndX (.tmp 23) (seqO Imr700_10 (cndX (.tmp 32) Imr700_11 Imr700_12)) (seqO Imr700_13 (cndX (.tmp 46) (seqO Imr700_14 Out.ret) Out.nor)))))))) (seqO Imr700_15 Out.ret)))))
def Ime700 : FuncId → Option Fun := fun f => match Nat.beq f 16 with | true => some ImF120 | false => match Nat.beq f 18 with | true => some ImF702 | false => match Nat.beq f 17 with | true => some ImF701 | false => match Nat.beq f 19 with | true => some ImF718 | false => none
def Imp700 : Plans := fun id => match Nat.beq id 8 with | true => some ([0, 1, 0, 0, 12, 31, 63], [(2, .pure), (3, .read 0), (4, .heavy), (0, .pure), (1, .read 1), (5, .heavy), (6, .pure)]) | false => match Nat.beq id 10 with | true => some ([0, 1, 0, 4, 12, 28, 60, 127], [(0, .pure), (1, .read 0), (2, .pure), (3, .pure), (4, .pure), (5, .read 0), (6, .pure), (7, .pure)]) | false => match Nat.beq id 12 with | true => some ([0, 1, 3, 7, 0, 16, 48, 127, 255, 511, 1023], [(0, .pure), (1, .pure), (2, .pure), (3, .read 0), (4, .pure), (5, .read 0), (6, .pure), (7, .pure), (8, .pure), (9, .pure), (10, .heavy)]) | false => match Nat.beq id 14 with | true => some ([0, 1, 3, 7, 0, 16, 48, 112, 0, 256, 768, 1792, 0, 4096, 16383, 32767, 65535], [(0, .pure), (1, .pure), (2, .pure), (3, .read 0), (4, .pure), (5, .pure), (6, .pure), (7, .read 0), (8, .pure), (9, .pure), (10, .pure), (11, .read 0), (12, .pure), (13, .read 0), (14, .heavy), (15, .heavy), (16, .pure)]) | false => none
def ImF700 : Fun := funX Tryz.prog TryG Imk700 Ime700 Imp700 lf Tryz.f9
theorem ImD700 : denX Tryz.prog TryG Tryz.f9.ntmps Imk700 Ime700 Imp700 lf (codeOf Tryz.f9) = Imd700 := by kernel_rfl
theorem ImF700_eq (x0 x1 : V) (h : Hp) : ImF700 [x0, x1] h = outR Tryz.prog [.tmp 4] (Imd700 (T.set (some x1) (Pos.of 1) (T.set (some x0) (Pos.of 0) T.nil)) h) := funX_eq (by kernel_rfl) ImD700 (by kernel_rfl) h
theorem Imc700 : CallOk Tryz.prog TryG 9 ImF700 := funX_ok Trymix (callsOk_cons Imc120 (callsOk_cons Imc702 (callsOk_cons Imc701 (callsOk_cons Imc718 callsOk_0)))) Tryz.func9 (by kernel_rfl)
def Imk705 : Nat → Bool := fun t => memN t [0, 1, 4, 5, 15]
def Imr705_0 (fr : F) (h : Hp) : Out :=
  Out.nor (T.set (some (.str [])) (Pos.of 4) fr) h
def Imr705_1 (fr : F) (h : Hp) : Out :=
  gtO (T.get fr (Pos.of 0)) fun v0 => bndO (oBuild [(.int .i64 0), (.int .i64 0), (.int .i64 0), .nils] [(0, 1, (.int .i64 1))] h) fun v7 h1 =>
  bndO (ImF700 [v0, v7] h1) fun v8 h2 =>
  Out.nor fr h2
def Imr705_2 (fr : F) (h : Hp) : Out :=
  gtO (T.get fr (Pos.of 0)) fun v0 => gtO (T.get fr (Pos.of 1)) fun v1 => bndO (oBuild [(.int .i64 0), (.int .i64 0), (.int .i64 0), .nils] [(0, 1, (.int .i64 3)), (3, 1, v1)] h) fun v11 h2 =>
  bndO (ImF700 [v0, v11] h2) fun v12 h3 =>
  Out.nor (T.set (some v12) (Pos.of 5) fr) h3
def Imr705_3 (fr : F) (h : Hp) : Out :=
  gtO (T.get fr (Pos.of 5)) fun v5 => bndO (oLenK 2 v5 h) fun v14 h1 =>
  bndO (oBin .neq .none v14 (.int .i64 1) h1) fun v15 h2 =>
  Out.nor (T.set (some v15) (Pos.of 15) fr) h2
def Imr705_4 (fr : F) (h : Hp) : Out :=
  Out.nor (T.set (some (.str [])) (Pos.of 4) fr) h
def Imr705_5 (fr : F) (h : Hp) : Out :=
  gtO (T.get fr (Pos.of 5)) fun v5 => bndO (oIdxS 2 v5 (.int .i64 0) h) fun v17 h1 =>
  bndO (oFieldAddr 1 v17 h1) fun v18 h2 =>
  bndO (oLoad1 v18 h2) fun v19 h3 =>
  Out.nor (T.set (some v19) (Pos.of 4) fr) h3
def Imd705 : F → Hp → Out := (seqO Imr705_0 (seqO Imr705_1 (seqO Imr705_2 (seqO (seqO Imr705_3 (cndX (.tmp 15) (seqO Imr705_4 Out.ret) Out.nor)) (seqO Imr705_5 Out.ret)))))
def Ime705 : FuncId → Option Fun := fun f => match Nat.beq f 9 with | true => some ImF700 | false => none
def Imp705 : Plans := fun id => none
def ImF705 : Fun := funX Tryz.prog TryG Imk705 Ime705 Imp705 lf Tryz.f10
theorem ImD705 : denX Tryz.prog TryG Tryz.f10.ntmps Imk705 Ime705 Imp705 lf (codeOf Tryz.f10) = Imd705 := by kernel_rfl
theorem ImF705_eq (x0 x1 : V) (h : Hp) : ImF705 [x0, x1] h = outR Tryz.prog [.tmp 4] (Imd705 (T.set (some x1) (Pos.of 1) (T.set (some x0) (Pos.of 0) T.nil)) h) := funX_eq (by kernel_rfl) ImD705 (by kernel_rfl) h
theorem Imc705 : CallOk Tryz.prog TryG 10 ImF705 := funX_ok Trymix (callsOk_cons Imc700 callsOk_0) Tryz.func10 (by kernel_rfl)
def Imk706 : Nat → Bool := fun t => memN t [0, 2, 3, 4, 5, 6, 7, 8, 11, 24]
def Imr706_0 (fr : F) (h : Hp) : Out :=
  Out.nor (T.set (some (.bool false)) (Pos.of 2) fr) h
def Imr706_1 (fr : F) (h : Hp) : Out :=
  gtO (T.get fr (Pos.of 0)) fun v0 => bndO (oLenK 2 v0 h) fun v10 h1 =>
  bndO (oBin .gtr .none v10 (.int .i64 1000) h1) fun v11 h2 =>
  Out.nor (T.set (some v11) (Pos.of 11) fr) h2
def Imr706_2 (fr : F) (h : Hp) : Out :=
  bndO (ImF714 [] h) fun v12 h0 =>
  Out.nor (T.set (some v12) (Pos.of 2) fr) h0
def Imr706_3 (fr : F) (h : Hp) : Out :=
  bndO (ImF14 [] h) fun v14 h0 =>
  bndO (ImF711 [v14] h0) fun v15 h1 =>
  bndO (oExtract 0 v15 h1) fun v16 h3 =>
  bndO (oExtract 1 v15 h3) fun v17 h4 =>
  Out.nor (T.set (some v17) (Pos.of 4) (T.set (some v16) (Pos.of 3) fr)) h4
def Imr706_4 (fr : F) (h : Hp) : Out :=
  gtO (T.get fr (Pos.of 4)) fun v4 => bndO (ImF15 [v4] h) fun v19 h1 =>
  bndO (oBin .neq .none v19 (.int .i64 0) h1) fun v20 h2 =>
  ifB v20 (Out.nor (T.set (some (.bool true)) (Pos.of 24) fr) h2) (gtO (T.get fr (Pos.of 3)) fun v3 => bndO (oBin .eql (.ptr 8) v3 .nilp h2) fun v23 h5 =>
  Out.nor (T.set (some v23) (Pos.of 24) fr) h5)
def Imr706_5 (fr : F) (h : Hp) : Out :=
  Out.nor (T.set (some (.bool false)) (Pos.of 2) fr) h
def Imr706_6 (fr : F) (h : Hp) : Out :=
  gtO (T.get fr (Pos.of 3)) fun v3 => bndO (oBuild [(.int .i64 0), (.int .i64 0), (.int .i64 0), .nils] [(0, 1, (.int .i64 1)), (1, 1, (.int .i64 1))] h) fun v26 h1 =>
  bndO (ImF700 [v3, v26] h1) fun v27 h2 =>
  Out.nor fr h2
def Imr706_7 (fr : F) (h : Hp) : Out :=
  bndO (oBuildSlice 5 [(.int .u8 0), (.int .u8 0), (.int .u8 0), (.int .u8 0), (.int .u8 0), (.int .u8 0), (.int .u8 0), (.int .u8 0), (.int .u8 0), (.int .u8 0)] 10 [(0, 1, (.int .u8 97)), (1, 1, (.int .u8 32)), (2, 1, (.int .u8 76)), (3, 1, (.int .u8 79)), (4, 1, (.int .u8 71)), (5, 1, (.int .u8 79)), (6, 1, (.int .u8 85)), (7, 1, (.int .u8 84)), (8, 1, (.int .u8 13)), (9, 1, (.int .u8 10))] h) fun v28 h0 =>
  bndO (oMarkB v28 h0) fun v29 h1 =>
  gtO (T.get fr (Pos.of 0)) fun v0 => bndO (oAppend 5 1 1 v29 v0 h1) fun v31 h3 =>
  Out.nor (T.set (some v31) (Pos.of 5) fr) h3
def Imr706_8 (fr : F) (h : Hp) : Out :=
  gtO (T.get fr (Pos.of 3)) fun v3 => gtO (T.get fr (Pos.of 5)) fun v5 => bndO (ImF705 [v3, v5] h) fun v34 h2 =>
  Out.nor (T.set (some v34) (Pos.of 6) fr) h2
def Imr706_9 (fr : F) (h : Hp) : Out :=
  gtO (T.get fr (Pos.of 3)) fun v3 => bndO (oBuildSlice 5 [(.int .u8 0), (.int .u8 0), (.int .u8 0), (.int .u8 0), (.int .u8 0), (.int .u8 0), (.int .u8 0), (.int .u8 0)] 8 [(0, 1, (.int .u8 98)), (1, 1, (.int .u8 32)), (2, 1, (.int .u8 78)), (3, 1, (.int .u8 79)), (4, 1, (.int .u8 79)), (5, 1, (.int .u8 80)), (6, 1, (.int .u8 13)), (7, 1, (.int .u8 10))] h) fun v36 h1 =>
  bndO (oMarkB v36 h1) fun v37 h2 =>
  bndO (oBuild [(.int .i64 0), (.int .i64 0), (.int .i64 0), .nils] [(0, 1, (.int .i64 3)), (3, 1, v37)] h2) fun v38 h3 =>
  bndO (ImF700 [v3, v38] h3) fun v39 h4 =>
  Out.nor (T.set (some v39) (Pos.of 7) fr) h4
def Imr706_10 (fr : F) (h : Hp) : Out :=
  gtO (T.get fr (Pos.of 3)) fun v3 => bndO (oBuildSlice 5 [(.int .u8 0), (.int .u8 0), (.int .u8 0), (.int .u8 0), (.int .u8 0), (.int .u8 0), (.int .u8 0), (.int .u8 0)] 8 [(0, 1, (.int .u8 98)), (1, 1, (.int .u8 32)), (2, 1, (.int .u8 78)), (3, 1, (.int .u8 79)), (4, 1, (.int .u8 79)), (5, 1, (.int .u8 80)), (6, 1, (.int .u8 13)), (7, 1, (.int .u8 10))] h) fun v41 h1 =>
  bndO (oMarkB v41 h1) fun v42 h2 =>
  bndO (oBuild [(.int .i64 0), (.int .i64 0), (.int .i64 0), .nils] [(0, 1, (.int .i64 3)), (1, 1, (.int .i64 1)), (3, 1, v42)] h2) fun v43 h3 =>
  bndO (ImF700 [v3, v43] h3) fun v44 h4 =>
  Out.nor (T.set (some v44) (Pos.of 8) fr) h4
def Imr706_11 (fr : F) (h : Hp) : Out :=
  gtO (T.get fr (Pos.of 6)) fun v6 => bndO (oBin .eql .none v6 (.str [42, 32, 66, 89, 69, 13, 10, 97, 32, 79, 75, 32, 100, 111, 110, 101, 13, 10]) h) fun v46 h1 =>
  ifB v46 (gtO (T.get fr (Pos.of 7)) fun v7 => bndO (oLenK 2 v7 h1) fun v49 h4 =>
  bndO (oBin .eql .none v49 (.int .i64 0) h4) fun v50 h5 =>
  ifB v50 (gtO (T.get fr (Pos.of 8)) fun v8 => bndO (oLenK 2 v8 h5) fun v54 h9 =>
  bndO (oBin .eql .none v54 (.int .i64 1) h9) fun v55 h10 =>
  ifB v55 (bndO (oIdxS 2 v8 (.int .i64 0) h10) fun v59 h14 =>
  bndO (oFieldAddr 1 v59 h14) fun v60 h15 =>
  bndO (oLoad1 v60 h15) fun v61 h16 =>
  bndO (oBin .eql .none v61 (.str [98, 32, 79, 75, 32, 100, 111, 110, 101, 13, 10]) h16) fun v62 h17 =>
  ifB v62 (bndO (ImF714 [] h17) fun v65 h20 =>
  Out.nor (T.set (some v65) (Pos.of 2) fr) h20) (Out.nor (T.set (some (.bool false)) (Pos.of 2) fr) h17)) (Out.nor (T.set (some (.bool false)) (Pos.of 2) fr) h10)) (Out.nor (T.set (some (.bool false)) (Pos.of 2) fr) h5)) (Out.nor (T.set (some (.bool false)) (Pos.of 2) fr) h1)
def Imd706 : F → Hp → Out := (seqO Imr706_0 (seqO (seqO Imr706_1 (cndX (.tmp 11) (seqO Imr706_2 Out.ret) Out.nor)) (seqO Imr706_3 (seqO (seqO Imr706_4 (cndX (.tmp 24) (seqO Imr706_5 Out.ret) Out.nor)) (seqO Imr706_6 (seqO Imr706_7 (seqO Imr706_8 (seqO Imr706_9 (seqO Imr706_10 (seqO Imr706_11 Out.ret))))))))))
def Ime706 : FuncId → Option Fun := fun f => match Nat.beq f 5 with | true => some ImF714 | false => match Nat.beq f 7 with | true => some ImF14 | false => match Nat.beq f 6 with | true => some ImF711 | false => match Nat.beq f 8 with | true => some ImF15 | false => match Nat.beq f 9 with | true => some ImF700 | false => match Nat.beq f 10 with | true => some ImF705 | false => none
def Imp706 : Plans := fun id => none
def ImF706 : Fun := funX Tryz.prog TryG Imk706 Ime706 Imp706 lf Tryz.f4
theorem ImD706 : denX Tryz.prog TryG Tryz.f4.ntmps Imk706 Ime706 Imp706 lf (codeOf Tryz.f4) = Imd706 := by kernel_rfl
theorem ImF706_eq (x0 : V) (h : Hp) : ImF706 [x0] h = outR Tryz.prog [.tmp 2] (Imd706 (T.set (some x0) (Pos.of 0) T.nil) h) := funX_eq (by kernel_rfl) ImD706 (by kernel_rfl) h
theorem Imc706 : CallOk Tryz.prog TryG 4 ImF706 := funX_ok Trymix (callsOk_cons Imc714 (callsOk_cons Imc14 (callsOk_cons Imc711 (callsOk_cons Imc15 (callsOk_cons Imc700 (callsOk_cons Imc705 callsOk_0)))))) Tryz.func4 (by kernel_rfl)
end Go.Proofs.Im
