/- Part of the value machine, or of a walk by it: lemmas that the claim's last text uses. No conditions. -/
import Derived.Test.YtnlbcbjgejpanaaGreatDoorSeFeH
set_option linter.unusedVariables false
set_option linter.unusedSimpArgs false
set_option linter.unnecessarySimpa false
noncomputable section
namespace Go.Proofs.Im
open Go Go.Proofs Go.Vm
set_option linter.unusedVariables false
set_option maxRecDepth 100000
set_option maxHeartbeats 4000000
abbrev tBd : TypeId := 174
abbrev tA : TypeId := 192
abbrev tRq : TypeId := 194
abbrev tCn : TypeId := 145
abbrev tCmd : TypeId := 148
abbrev tGot : TypeId := 155
abbrev tF18 : Nat := 50
abbrev tF19 : Nat := 51
abbrev tF20 : Nat := 52
abbrev tF21 : Nat := 53
abbrev tF22 : Nat := 54
abbrev tF23 : Nat := 55
abbrev tF24 : Nat := 56
abbrev tF25 : Nat := 57
abbrev tF26 : Nat := 58
abbrev tF27 : Nat := 59
abbrev tF28 : Nat := 60
abbrev tF29 : Nat := 61
abbrev tF30 : Nat := 62
abbrev tF31 : Nat := 63
abbrev tF32 : Nat := 64
abbrev tF33 : Nat := 65
abbrev tF34 : Nat := 66
abbrev tF35 : Nat := 67
abbrev tF36 : Nat := 68
def ImF231 : Fun := atomAdd .i64
theorem Imc231 : CallOk Tryz.prog TryG 26 ImF231 := atomAdd_ok Tryz.func26 (by kernel_rfl) (by kernel_rfl) (by kernel_rfl) .i64 (by kernel_rfl)
def Imk120 : Nat → Bool := fun t => memN t [0, 1, 4]
def Imr120_0 (fr : F) (h : Hp) : Out :=
  Out.nor (T.set (some (.int .i64 0)) (Pos.of 4) fr) h
def Imr120_1 (fr : F) (h : Hp) : Out :=
  gtO (T.get fr (Pos.of 0)) fun v0 => bndO (oNilCheck v0 h) fun v6 h1 =>
  bndO (oFieldAddr 0 v6 h1) fun v7 h2 =>
  gtO (T.get fr (Pos.of 1)) fun v1 => bndO (ImF231 [v7, v1] h2) fun v9 h4 =>
  Out.nor (T.set (some v9) (Pos.of 4) fr) h4
def Imd120 : F → Hp → Out := (seqO Imr120_0 (seqO Imr120_1 Out.ret))
def Ime120 : FuncId → Option Fun := fun f => match Nat.beq f 26 with | true => some ImF231 | false => none
def Imp120 : Plans := fun id => none
def ImF120 : Fun := funX Tryz.prog TryG Imk120 Ime120 Imp120 lf Tryz.f16
theorem ImD120 : denX Tryz.prog TryG Tryz.f16.ntmps Imk120 Ime120 Imp120 lf (codeOf Tryz.f16) = Imd120 := by kernel_rfl
theorem ImF120_eq (x0 x1 : V) (h : Hp) : ImF120 [x0, x1] h = outR Tryz.prog [.tmp 4] (Imd120 (T.set (some x1) (Pos.of 1) (T.set (some x0) (Pos.of 0) T.nil)) h) := funX_eq (by kernel_rfl) ImD120 (by kernel_rfl) h
theorem Imc120 : CallOk Tryz.prog TryG 16 ImF120 := funX_ok Trymix (callsOk_cons Imc231 callsOk_0) Tryz.func16 (by kernel_rfl)
def Imk122 : Nat → Bool := fun t => memN t [0, 2, 3, 4, 5, 10, 11, 12, 22]
def Imr122_0 (fr : F) (h : Hp) : Out :=
  Out.nor (T.set (some (.str [])) (Pos.of 2) fr) h
def Imr122_1 (fr : F) (h : Hp) : Out :=
  gtO (T.get fr (Pos.of 0)) fun v0 => bndO (oLenK 1 v0 h) fun v7 h1 =>
  bndO (oMakeSlice 5 1 [(.int .u8 0)] (.int .i64 0) v7 h1) fun v8 h2 =>
  Out.nor (T.set (some v8) (Pos.of 3) fr) h2
def Imr122_2 (fr : F) (h : Hp) : Out :=
  gtO (T.get fr (Pos.of 0)) fun v0 => bndO (oLenK 1 v0 h) fun v10 h1 =>
  Out.nor (T.set (some (.int .i64 0)) (Pos.of 11) (T.set (some v10) (Pos.of 10) fr)) h1
def Imr122_3 (fr : F) (h : Hp) : Out :=
  gtO (T.get fr (Pos.of 11)) fun v11 => gtO (T.get fr (Pos.of 10)) fun v10 => bndO (oBin .lss .none v11 v10 h) fun v12 h0 =>
  Out.nor (T.set (some v12) (Pos.of 12) fr) h0
def Imr122_4 (fr : F) (h : Hp) : Out :=
  gtO (T.get fr (Pos.of 11)) fun v11 => Out.nor (T.set (some v11) (Pos.of 4) fr) h
def Imr122_5 (fr : F) (h : Hp) : Out :=
  gtO (T.get fr (Pos.of 0)) fun v0 => gtO (T.get fr (Pos.of 4)) fun v4 => bndO (oIdxStr v0 v4 h) fun v16 h2 =>
  Out.nor (T.set (some v16) (Pos.of 5) fr) h2
def Imr122_6 (fr : F) (h : Hp) : Out :=
  gtO (T.get fr (Pos.of 5)) fun v5 => bndO (oBin .geq .none v5 (.int .u8 65) h) fun v18 h1 =>
  ifB v18 (bndO (oBin .leq .none v5 (.int .u8 90) h1) fun v21 h4 =>
  Out.nor (T.set (some v21) (Pos.of 22) fr) h4) (Out.nor (T.set (some (.bool false)) (Pos.of 22) fr) h1)
def Imr122_7 (fr : F) (h : Hp) : Out :=
  gtO (T.get fr (Pos.of 5)) fun v5 => bndO (oBin .add .none v5 (.int .u8 32) h) fun v24 h1 =>
  Out.nor (T.set (some v24) (Pos.of 5) fr) h1
def Imr122_8 (fr : F) (h : Hp) : Out :=
  gtO (T.get fr (Pos.of 3)) fun v3 => gtO (T.get fr (Pos.of 5)) fun v5 => bndO (oBuildSlice 5 [(.int .u8 0)] 1 [(0, 1, v5)] h) fun v27 h2 =>
  bndO (oAppend 5 1 1 v3 v27 h2) fun v28 h3 =>
  Out.nor (T.set (some v28) (Pos.of 3) fr) h3
def Imr122_9 (fr : F) (h : Hp) : Out :=
  gtO (T.get fr (Pos.of 11)) fun v11 => bndO (oBin .add .none v11 (.int .i64 1) h) fun v29 h0 =>
  Out.nor (T.set (some v29) (Pos.of 11) fr) h0
def Imr122_10 (fr : F) (h : Hp) : Out :=
  gtO (T.get fr (Pos.of 3)) fun v3 => bndO (oBytesStr v3 h) fun v31 h1 =>
  Out.nor (T.set (some v31) (Pos.of 2) fr) h1
def Imb122_3 : F → Hp → Out := (seqO Imr122_3 (seqO (cndX (.tmp 12) Out.nor (Out.ex 0)) (seqO (blkO 1 (seqO Imr122_4 (seqO Imr122_5 (seqO (seqO Imr122_6 (cndX (.tmp 22) Imr122_7 Out.nor)) Imr122_8)))) Imr122_9)))
def Imd122 : F → Hp → Out := (seqO Imr122_0 (seqO Imr122_1 (seqO (seqO Imr122_2 (blkO 0 (loopO Imb122_3 lf))) (seqO Imr122_10 Out.ret))))
def Ime122 : FuncId → Option Fun := fun f => none
def Imp122 : Plans := fun id => none
def ImF122 : Fun := funX Tryz.prog TryG Imk122 Ime122 Imp122 lf Tryz.f159
theorem ImD122 : denX Tryz.prog TryG Tryz.f159.ntmps Imk122 Ime122 Imp122 lf (codeOf Tryz.f159) = Imd122 := by kernel_rfl
theorem ImF122_eq (x0 : V) (h : Hp) : ImF122 [x0] h = outR Tryz.prog [.tmp 2] (Imd122 (T.set (some x0) (Pos.of 0) T.nil) h) := funX_eq (by kernel_rfl) ImD122 (by kernel_rfl) h
theorem Imc122 : CallOk Tryz.prog TryG 159 ImF122 := funX_ok Trymix callsOk_0 Tryz.func159 (by kernel_rfl)
def ImF324 : Fun := sameF
theorem Imc324 : CallOk Tryz.prog TryG 453 ImF324 := sameF_ok Tryz.func453 (by kernel_rfl) (by kernel_rfl) (by kernel_rfl) (by kernel_rfl)
def Imk232 : Nat → Bool := fun t => memN t [0, 6, 19]
def Imr232_0 (fr : F) (h : Hp) : Out :=
  gtO (T.get fr (Pos.of 0)) fun v0 => bndO (oNilCheck v0 h) fun v3 h1 =>
  bndO (oFieldAddr 0 v3 h1) fun v4 h2 =>
  bndO (oLoad1 v4 h2) fun v5 h3 =>
  bndO (oBin .eql (.ptr 2) v5 .nilp h3) fun v6 h4 =>
  Out.nor (T.set (some v6) (Pos.of 6) fr) h4
def Imr232_1 (fr : F) (h : Hp) : Out :=
  gtO (T.get fr (Pos.of 0)) fun v0 => bndO (oToU v0 h) fun v9 h2 =>
  bndO (ImF324 [v9] h2) fun v10 h3 =>
  bndO (dFromU Tryz.prog 174 v10 h3) fun v11 h4 =>
  bndO (oNilCheck v0 h4) fun v12 h5 =>
  bndO (oFieldAddr 0 v12 h5) fun v13 h6 =>
  bndO (oStore 1 v13 v11 h6) fun _u7 h7 =>
  Out.nor fr h7
def Imr232_2 (fr : F) (h : Hp) : Out :=
  gtO (T.get fr (Pos.of 0)) fun v0 => bndO (oNilCheck v0 h) fun v15 h1 =>
  bndO (oFieldAddr 0 v15 h1) fun v16 h2 =>
  bndO (oLoad1 v16 h2) fun v17 h3 =>
  bndO (oBin .neq (.ptr 2) v17 v0 h3) fun v19 h5 =>
  Out.nor (T.set (some v19) (Pos.of 19) fr) h5
def Imd232 : F → Hp → Out := (seqO Imr232_0 (cndX (.tmp 6) Imr232_1 (seqO Imr232_2 (cndX (.tmp 19) badO Out.nor))))
def Ime232 : FuncId → Option Fun := fun f => match Nat.beq f 453 with | true => some ImF324 | false => none
def Imp232 : Plans := fun id => none
def ImF232 : Fun := funX Tryz.prog TryG Imk232 Ime232 Imp232 lf Tryz.f294
theorem ImD232 : denX Tryz.prog TryG Tryz.f294.ntmps Imk232 Ime232 Imp232 lf (codeOf Tryz.f294) = Imd232 := by kernel_rfl
theorem ImF232_eq (x0 : V) (h : Hp) : ImF232 [x0] h = outR Tryz.prog [] (Imd232 (T.set (some x0) (Pos.of 0) T.nil) h) := funX_eq (by kernel_rfl) ImD232 (by kernel_rfl) h
theorem Imc232 : CallOk Tryz.prog TryG 294 ImF232 := funX_ok Trymix (callsOk_cons Imc324 callsOk_0) Tryz.func294 (by kernel_rfl)
def Imk123 : Nat → Bool := fun t => memN t [0, 1, 4, 5]
def Imr123_0 (fr : F) (h : Hp) : Out :=
  Out.nor (T.set (some .nili) (Pos.of 5) (T.set (some (.int .i64 0)) (Pos.of 4) fr)) h
def Imr123_1 (fr : F) (h : Hp) : Out :=
  gtO (T.get fr (Pos.of 0)) fun v0 => bndO (ImF232 [v0] h) fun v7 h1 =>
  Out.nor fr h1
def Imr123_2 (fr : F) (h : Hp) : Out :=
  gtO (T.get fr (Pos.of 0)) fun v0 => bndO (oNilCheck v0 h) fun v10 h2 =>
  bndO (oFieldAddr 1 v10 h2) fun v11 h3 =>
  bndO (oLoad1 v11 h3) fun v12 h4 =>
  gtO (T.get fr (Pos.of 1)) fun v1 => bndO (oAppend 5 1 1 v12 v1 h4) fun v14 h6 =>
  bndO (oNilCheck v0 h6) fun v15 h7 =>
  bndO (oFieldAddr 1 v15 h7) fun v16 h8 =>
  bndO (oStore 1 v16 v14 h8) fun _u9 h9 =>
  Out.nor fr h9
def Imr123_3 (fr : F) (h : Hp) : Out :=
  gtO (T.get fr (Pos.of 1)) fun v1 => bndO (oLenK 1 v1 h) fun v18 h1 =>
  Out.nor (T.set (some .nili) (Pos.of 5) (T.set (some v18) (Pos.of 4) fr)) h1
def Imd123 : F → Hp → Out := (seqO Imr123_0 (seqO Imr123_1 (seqO Imr123_2 (seqO Imr123_3 Out.ret))))
def Ime123 : FuncId → Option Fun := fun f => match Nat.beq f 294 with | true => some ImF232 | false => none
def Imp123 : Plans := fun id => none
def ImF123 : Fun := funX Tryz.prog TryG Imk123 Ime123 Imp123 lf Tryz.f160
theorem ImD123 : denX Tryz.prog TryG Tryz.f160.ntmps Imk123 Ime123 Imp123 lf (codeOf Tryz.f160) = Imd123 := by kernel_rfl
theorem ImF123_eq (x0 x1 : V) (h : Hp) : ImF123 [x0, x1] h = outR Tryz.prog [.tmp 4, .tmp 5] (Imd123 (T.set (some x1) (Pos.of 1) (T.set (some x0) (Pos.of 0) T.nil)) h) := funX_eq (by kernel_rfl) ImD123 (by kernel_rfl) h
theorem Imc123 : CallOk Tryz.prog TryG 160 ImF123 := funX_ok Trymix (callsOk_cons Imc232 callsOk_0) Tryz.func160 (by kernel_rfl)
def ImF356 : Fun := noZero 5
theorem Imc356 : CallOk Tryz.prog TryG 504 ImF356 := noZero_ok (ps := Tryz.f504.params) Tryz.func504 (by kernel_rfl) (by kernel_rfl) (by kernel_rfl) Tryz.underlying34 (by kernel_rfl)
def Imk260 : Nat → Bool := fun t => memN t [0, 1, 4]
def Imr260_0 (fr : F) (h : Hp) : Out :=
  gtO (T.get fr (Pos.of 0)) fun w0_0 => bndO (oNilCheck w0_0 (bumpH 0 h)) fun v6 _ =>
  bndO (oFieldAddr 1 v6 (bumpH 0 h)) fun v7 _ =>
  bndO (oLoad1 v7 (bumpH 0 h)) fun v8 _ =>
  bndO (oCap v8 (bumpH 0 h)) fun v9 h4 =>
  bndO (oBin .mul .none (.int .i64 2) v9 h4) fun v10 _ =>
  gtO (T.get fr (Pos.of 1)) fun w6_1 => bndO (oBin .add .none v10 w6_1 h4) fun v12 _ =>
  bndO (ImF356 [v12] h4) fun v13 h8 =>
  gtO (T.get fr (Pos.of 0)) fun w9_0 => bndO (oNilCheck w9_0 h8) fun v15 _ =>
  bndO (oFieldAddr 1 v15 h8) fun v16 _ =>
  bndO (oLoad1 v16 h8) fun v17 _ => chk (fun h => oLoad1 v16 h) v17 (
  bndO (oLenK 2 v17 h8) fun v18 _ =>
  bndO (oSlice 1 v13 none (some v18) none h8) fun v19 _ =>
  Out.nor (T.set (some v19) (Pos.of 4) fr) h8) 2 [h4, (bumpH 0 h)]
def Imr260_1 (fr : F) (h : Hp) : Out :=
  gtO (T.get fr (Pos.of 4)) fun v4 => gtO (T.get fr (Pos.of 0)) fun v0 => bndO (oNilCheck v0 h) fun v22 h2 =>
  bndO (oFieldAddr 1 v22 h2) fun v23 h3 =>
  bndO (oLoad1 v23 h3) fun v24 h4 =>
  bndO (oCopy 1 v4 v24 h4) fun v25 h5 =>
  Out.nor fr h5
def Imr260_2 (fr : F) (h : Hp) : Out :=
  gtO (T.get fr (Pos.of 0)) fun v0 => gtO (T.get fr (Pos.of 4)) fun v4 => bndO (oNilCheck v0 h) fun v28 h2 =>
  bndO (oFieldAddr 1 v28 h2) fun v29 h3 =>
  bndO (oStore 1 v29 v4 h3) fun _u4 h4 =>
  Out.nor fr h4
def Imd260 : F → Hp → Out := (seqO Imr260_0 (seqO Imr260_1 Imr260_2))
def Ime260 : FuncId → Option Fun := fun f => match Nat.beq f 504 with | true => some ImF356 | false => none
def Imp260 : Plans := fun id => match Nat.beq id 0 with | true => some ([0, 1, 3, 7, 15, 31, 0, 127, 255, 0, 512, 1536, 3584, 7680, 16383, 32767], [(0, .pure), (1, .pure), (2, .pure), (3, .read 0), (4, .heavy), (5, .pure), (6, .pure), (7, .pure), (8, .heavy), (9, .pure), (10, .pure), (11, .pure), (12, .read 2), (13, .pure), (14, .pure), (15, .pure)]) | false => none
def ImF260 : Fun := funX Tryz.prog TryG Imk260 Ime260 Imp260 lf Tryz.f381
theorem ImD260 : denX Tryz.prog TryG Tryz.f381.ntmps Imk260 Ime260 Imp260 lf (codeOf Tryz.f381) = Imd260 := by kernel_rfl
theorem ImF260_eq (x0 x1 : V) (h : Hp) : ImF260 [x0, x1] h = outR Tryz.prog [] (Imd260 (T.set (some x1) (Pos.of 1) (T.set (some x0) (Pos.of 0) T.nil)) h) := funX_eq (by kernel_rfl) ImD260 (by kernel_rfl) h
theorem Imc260 : CallOk Tryz.prog TryG 381 ImF260 := funX_ok Trymix (callsOk_cons Imc356 callsOk_0) Tryz.func381 (by kernel_rfl)
def Imk163 : Nat → Bool := fun t => memN t [0, 1, 7, 21]
def Imr163_0 (fr : F) (h : Hp) : Out :=
  gtO (T.get fr (Pos.of 0)) fun v0 => bndO (ImF232 [v0] h) fun v5 h1 =>
  Out.nor fr h1
def Imr163_1 (fr : F) (h : Hp) : Out :=
  gtO (T.get fr (Pos.of 1)) fun v1 => bndO (oBin .lss .none v1 (.int .i64 0) h) fun v7 h1 =>
  Out.nor (T.set (some v7) (Pos.of 7) fr) h1
def Imr163_2 (fr : F) (h : Hp) : Out :=
  bndO (oIface 9 (.str [115, 116, 114, 105, 110, 103, 115, 46, 66, 117, 105, 108, 100, 101, 114, 46, 71, 114, 111, 119, 58, 32, 110, 101, 103, 97, 116, 105, 118, 101, 32, 99, 111, 117, 110, 116]) h) fun v8 h0 =>
  bndO (badR h0) fun _u1 h1 =>
  Out.nor fr h1
def Imr163_3 (fr : F) (h : Hp) : Out :=
  gtO (T.get fr (Pos.of 0)) fun w0_0 => bndO (oNilCheck w0_0 (bumpH 0 h)) fun v10 _ =>
  bndO (oFieldAddr 1 v10 (bumpH 0 h)) fun v11 _ =>
  bndO (oLoad1 v11 (bumpH 0 h)) fun v12 _ =>
  bndO (oCap v12 (bumpH 0 h)) fun v13 h4 =>
  gtO (T.get fr (Pos.of 0)) fun w5_0 => bndO (oNilCheck w5_0 h4) fun v15 _ =>
  bndO (oFieldAddr 1 v15 h4) fun v16 _ =>
  bndO (oLoad1 v16 h4) fun v17 _ => chk (fun h => oLoad1 v16 h) v17 (
  bndO (oLenK 2 v17 h4) fun v18 _ =>
  bndO (oBin .sub .none v13 v18 h4) fun v19 _ =>
  gtO (T.get fr (Pos.of 1)) fun w11_1 => bndO (oBin .lss .none v19 w11_1 h4) fun v21 _ =>
  Out.nor (T.set (some v21) (Pos.of 21) fr) h4) 1 [(bumpH 0 h)]
def Imr163_4 (fr : F) (h : Hp) : Out :=
  gtO (T.get fr (Pos.of 0)) fun v0 => gtO (T.get fr (Pos.of 1)) fun v1 => bndO (ImF260 [v0, v1] h) fun v24 h2 =>
  Out.nor fr h2
def Imd163 : F → Hp → Out := (seqO Imr163_0 (seqO (seqO Imr163_1 (cndX (.tmp 7) Imr163_2 Out.nor)) (seqO Imr163_3 (cndX (.tmp 21) Imr163_4 Out.nor))))
def Ime163 : FuncId → Option Fun := fun f => match Nat.beq f 294 with | true => some ImF232 | false => match Nat.beq f 381 with | true => some ImF260 | false => none
def Imp163 : Plans := fun id => match Nat.beq id 3 with | true => some ([0, 1, 3, 7, 15, 0, 32, 96, 224, 480, 1023, 0, 4095], [(0, .pure), (1, .pure), (2, .pure), (3, .read 0), (4, .heavy), (5, .pure), (6, .pure), (7, .pure), (8, .read 1), (9, .pure), (10, .pure), (11, .pure), (12, .pure)]) | false => none
def ImF163 : Fun := funX Tryz.prog TryG Imk163 Ime163 Imp163 lf Tryz.f224
theorem ImD163 : denX Tryz.prog TryG Tryz.f224.ntmps Imk163 Ime163 Imp163 lf (codeOf Tryz.f224) = Imd163 := by kernel_rfl
theorem ImF163_eq (x0 x1 : V) (h : Hp) : ImF163 [x0, x1] h = outR Tryz.prog [] (Imd163 (T.set (some x1) (Pos.of 1) (T.set (some x0) (Pos.of 0) T.nil)) h) := funX_eq (by kernel_rfl) ImD163 (by kernel_rfl) h
theorem Imc163 : CallOk Tryz.prog TryG 224 ImF163 := funX_ok Trymix (callsOk_cons Imc232 (callsOk_cons Imc260 callsOk_0)) Tryz.func224 (by kernel_rfl)
def Imk125 : Nat → Bool := fun t => memN t [0, 2]
def Imr125_0 (fr : F) (h : Hp) : Out :=
  Out.nor (T.set (some (.str [])) (Pos.of 2) fr) h
def Imr125_1 (fr : F) (h : Hp) : Out :=
  gtO (T.get fr (Pos.of 0)) fun w0_0 => bndO (oNilCheck w0_0 (bumpH 0 h)) fun v4 _ =>
  bndO (oFieldAddr 1 v4 (bumpH 0 h)) fun v5 _ =>
  bndO (oLoad1 v5 (bumpH 0 h)) fun v6 _ =>
  bndO (oSliceData v6 (bumpH 0 h)) fun v7 h4 =>
  gtO (T.get fr (Pos.of 0)) fun w5_0 => bndO (oNilCheck w5_0 h4) fun v9 _ =>
  bndO (oFieldAddr 1 v9 h4) fun v10 _ =>
  bndO (oLoad1 v10 h4) fun v11 _ => chk (fun h => oLoad1 v10 h) v11 (
  bndO (oLenK 2 v11 h4) fun v12 _ =>
  bndO (oUnsafeStr 5 v7 v12 h4) fun v13 h10 =>
  Out.nor (T.set (some v13) (Pos.of 2) fr) h10) 1 [(bumpH 0 h)]
def Imd125 : F → Hp → Out := (seqO Imr125_0 (seqO Imr125_1 Out.ret))
def Ime125 : FuncId → Option Fun := fun f => none
def Imp125 : Plans := fun id => match Nat.beq id 1 with | true => some ([0, 1, 3, 7, 15, 0, 32, 96, 224, 480, 1023, 2047], [(0, .pure), (1, .pure), (2, .pure), (3, .read 0), (4, .heavy), (5, .pure), (6, .pure), (7, .pure), (8, .read 1), (9, .pure), (10, .heavy), (11, .pure)]) | false => none
def ImF125 : Fun := funX Tryz.prog TryG Imk125 Ime125 Imp125 lf Tryz.f88
theorem ImD125 : denX Tryz.prog TryG Tryz.f88.ntmps Imk125 Ime125 Imp125 lf (codeOf Tryz.f88) = Imd125 := by kernel_rfl
theorem ImF125_eq (x0 : V) (h : Hp) : ImF125 [x0] h = outR Tryz.prog [.tmp 2] (Imd125 (T.set (some x0) (Pos.of 0) T.nil) h) := funX_eq (by kernel_rfl) ImD125 (by kernel_rfl) h
theorem Imc125 : CallOk Tryz.prog TryG 88 ImF125 := funX_ok Trymix callsOk_0 Tryz.func88 (by kernel_rfl)
def Imk78 : Nat → Bool := fun t => memN t [0, 1, 4, 5, 7, 8, 10, 12, 13, 15, 22, 29, 39, 40, 41, 42, 49, 63, 64, 65, 66]
def Imr78_0 (fr : F) (h : Hp) : Out :=
  Out.nor (T.set (some (.str [])) (Pos.of 4) fr) h
def Imr78_1 (fr : F) (h : Hp) : Out :=
  gtO (T.get fr (Pos.of 0)) fun v0 => bndO (oLenK 2 v0 h) fun v12 h1 =>
  Out.nor (T.set (some v12) (Pos.of 12) fr) h1
def Imr78_2 (fr : F) (h : Hp) : Out :=
  gtO (T.get fr (Pos.of 12)) fun v12 => bndO (oBin .eql .none v12 (.int .i64 0) h) fun v14 h0 =>
  Out.nor (T.set (some v14) (Pos.of 13) fr) h0
def Imr78_3 (fr : F) (h : Hp) : Out :=
  Out.nor (T.set (some (.str [])) (Pos.of 4) fr) h
def Imr78_4 (fr : F) (h : Hp) : Out :=
  gtO (T.get fr (Pos.of 12)) fun v12 => bndO (oBin .eql .none v12 (.int .i64 1) h) fun v16 h0 =>
  Out.nor (T.set (some v16) (Pos.of 15) fr) h0
def Imr78_5 (fr : F) (h : Hp) : Out :=
  gtO (T.get fr (Pos.of 0)) fun v0 => bndO (oIdxS 1 v0 (.int .i64 0) h) fun v18 h1 =>
  bndO (oLoad1 v18 h1) fun v19 h2 =>
  Out.nor (T.set (some v19) (Pos.of 4) fr) h2
def Imr78_6 (fr : F) (h : Hp) : Out :=
  Out.nor (T.set (some (.int .i64 0)) (Pos.of 5) fr) h
def Imr78_7 (fr : F) (h : Hp) : Out :=
  gtO (T.get fr (Pos.of 1)) fun v1 => bndO (oLenK 1 v1 h) fun v21 h1 =>
  bndO (oBin .gtr .none v21 (.int .i64 0) h1) fun v22 h2 =>
  Out.nor (T.set (some v22) (Pos.of 22) fr) h2
def Imr78_8 (fr : F) (h : Hp) : Out :=
  gtO (T.get fr (Pos.of 1)) fun v1 => bndO (oLenK 1 v1 h) fun v24 h1 =>
  gtO (T.get fr (Pos.of 0)) fun v0 => bndO (oLenK 2 v0 h1) fun v26 h3 =>
  bndO (oBin .sub .none v26 (.int .i64 1) h3) fun v27 h4 =>
  bndO (oBin .quo .none (.int .i64 9223372036854775807) v27 h4) fun v28 h5 =>
  bndO (oBin .geq .none v24 v28 h5) fun v29 h6 =>
  Out.nor (T.set (some v29) (Pos.of 29) fr) h6
def Imr78_9 (fr : F) (h : Hp) : Out :=
  bndO (oIface 9 (.str [115, 116, 114, 105, 110, 103, 115, 58, 32, 74, 111, 105, 110, 32, 111, 117, 116, 112, 117, 116, 32, 108, 101, 110, 103, 116, 104, 32, 111, 118, 101, 114, 102, 108, 111, 119]) h) fun v30 h0 =>
  bndO (badR h0) fun _u1 h1 =>
  Out.nor fr h1
def Imr78_10 (fr : F) (h : Hp) : Out :=
  gtO (T.get fr (Pos.of 5)) fun v5 => gtO (T.get fr (Pos.of 1)) fun v1 => bndO (oLenK 1 v1 h) fun v33 h2 =>
  gtO (T.get fr (Pos.of 0)) fun v0 => bndO (oLenK 2 v0 h2) fun v35 h4 =>
  bndO (oBin .sub .none v35 (.int .i64 1) h4) fun v36 h5 =>
  bndO (oBin .mul .none v33 v36 h5) fun v37 h6 =>
  bndO (oBin .add .none v5 v37 h6) fun v38 h7 =>
  Out.nor (T.set (some v38) (Pos.of 5) fr) h7
def Imr78_11 (fr : F) (h : Hp) : Out :=
  gtO (T.get fr (Pos.of 0)) fun v0 => bndO (oLenK 2 v0 h) fun v40 h1 =>
  Out.nor (T.set (some (.int .i64 0)) (Pos.of 41) (T.set (some v40) (Pos.of 40) (T.set (some v0) (Pos.of 39) fr))) h1
def Imr78_12 (fr : F) (h : Hp) : Out :=
  gtO (T.get fr (Pos.of 41)) fun v41 => gtO (T.get fr (Pos.of 40)) fun v40 => bndO (oBin .lss .none v41 v40 h) fun v42 h0 =>
  Out.nor (T.set (some v42) (Pos.of 42) fr) h0
def Imr78_13 (fr : F) (h : Hp) : Out :=
  gtO (T.get fr (Pos.of 39)) fun v39 => gtO (T.get fr (Pos.of 41)) fun v41 => bndO (oIdxS 1 v39 v41 h) fun v43 h0 =>
  bndO (oLoad1 v43 h0) fun v44 h1 =>
  Out.nor (T.set (some v44) (Pos.of 7) fr) h1
def Imr78_14 (fr : F) (h : Hp) : Out :=
  gtO (T.get fr (Pos.of 7)) fun v7 => bndO (oLenK 1 v7 h) fun v46 h1 =>
  gtO (T.get fr (Pos.of 5)) fun v5 => bndO (oBin .sub .none (.int .i64 9223372036854775807) v5 h1) fun v48 h3 =>
  bndO (oBin .gtr .none v46 v48 h3) fun v49 h4 =>
  Out.nor (T.set (some v49) (Pos.of 49) fr) h4
def Imr78_15 (fr : F) (h : Hp) : Out :=
  bndO (oIface 9 (.str [115, 116, 114, 105, 110, 103, 115, 58, 32, 74, 111, 105, 110, 32, 111, 117, 116, 112, 117, 116, 32, 108, 101, 110, 103, 116, 104, 32, 111, 118, 101, 114, 102, 108, 111, 119]) h) fun v50 h0 =>
  bndO (badR h0) fun _u1 h1 =>
  Out.nor fr h1
def Imr78_16 (fr : F) (h : Hp) : Out :=
  gtO (T.get fr (Pos.of 5)) fun v5 => gtO (T.get fr (Pos.of 7)) fun v7 => bndO (oLenK 1 v7 h) fun v53 h2 =>
  bndO (oBin .add .none v5 v53 h2) fun v54 h3 =>
  Out.nor (T.set (some v54) (Pos.of 5) fr) h3
def Imr78_17 (fr : F) (h : Hp) : Out :=
  gtO (T.get fr (Pos.of 41)) fun v41 => bndO (oBin .add .none v41 (.int .i64 1) h) fun v55 h0 =>
  Out.nor (T.set (some v55) (Pos.of 41) fr) h0
def Imr78_18 (fr : F) (h : Hp) : Out :=
  bndO (oNew 174 [.nilp, .nils] h) fun v8 h0 =>
  Out.nor (T.set (some v8) (Pos.of 8) fr) h0
def Imr78_19 (fr : F) (h : Hp) : Out :=
  gtO (T.get fr (Pos.of 5)) fun v5 => gtO (T.get fr (Pos.of 8)) fun v8 => bndO (ImF163 [v8, v5] h) fun v57 h1 =>
  Out.nor fr h1
def Imr78_20 (fr : F) (h : Hp) : Out :=
  gtO (T.get fr (Pos.of 0)) fun v0 => bndO (oIdxS 1 v0 (.int .i64 0) h) fun v59 h1 =>
  bndO (oLoad1 v59 h1) fun v60 h2 =>
  gtO (T.get fr (Pos.of 8)) fun v8 => bndO (ImF123 [v8, v60] h2) fun v61 h3 =>
  Out.nor fr h3
def Imr78_21 (fr : F) (h : Hp) : Out :=
  gtO (T.get fr (Pos.of 0)) fun v0 => bndO (oSlice 1 v0 (some (.int .i64 1)) none none h) fun v63 h1 =>
  bndO (oLenK 2 v63 h1) fun v64 h2 =>
  Out.nor (T.set (some (.int .i64 0)) (Pos.of 65) (T.set (some v64) (Pos.of 64) (T.set (some v63) (Pos.of 63) fr))) h2
def Imr78_22 (fr : F) (h : Hp) : Out :=
  gtO (T.get fr (Pos.of 65)) fun v65 => gtO (T.get fr (Pos.of 64)) fun v64 => bndO (oBin .lss .none v65 v64 h) fun v66 h0 =>
  Out.nor (T.set (some v66) (Pos.of 66) fr) h0
def Imr78_23 (fr : F) (h : Hp) : Out :=
  gtO (T.get fr (Pos.of 63)) fun v63 => gtO (T.get fr (Pos.of 65)) fun v65 => bndO (oIdxS 1 v63 v65 h) fun v67 h0 =>
  bndO (oLoad1 v67 h0) fun v68 h1 =>
  Out.nor (T.set (some v68) (Pos.of 10) fr) h1
def Imr78_24 (fr : F) (h : Hp) : Out :=
  gtO (T.get fr (Pos.of 1)) fun v1 => gtO (T.get fr (Pos.of 8)) fun v8 => bndO (ImF123 [v8, v1] h) fun v70 h1 =>
  Out.nor fr h1
def Imr78_25 (fr : F) (h : Hp) : Out :=
  gtO (T.get fr (Pos.of 10)) fun v10 => gtO (T.get fr (Pos.of 8)) fun v8 => bndO (ImF123 [v8, v10] h) fun v72 h1 =>
  Out.nor fr h1
def Imr78_26 (fr : F) (h : Hp) : Out :=
  gtO (T.get fr (Pos.of 65)) fun v65 => bndO (oBin .add .none v65 (.int .i64 1) h) fun v73 h0 =>
  Out.nor (T.set (some v73) (Pos.of 65) fr) h0
def Imr78_27 (fr : F) (h : Hp) : Out :=
  gtO (T.get fr (Pos.of 8)) fun v8 => bndO (ImF125 [v8] h) fun v74 h0 =>
  Out.nor (T.set (some v74) (Pos.of 4) fr) h0
def Imb78_12 : F → Hp → Out := (seqO Imr78_12 (seqO (cndX (.tmp 42) Out.nor (Out.ex 1)) (seqO (blkO 2 (seqO Imr78_13 (seqO (seqO Imr78_14 (cndX (.tmp 49) Imr78_15 Out.nor)) Imr78_16))) Imr78_17)))
def Imb78_22 : F → Hp → Out := (seqO Imr78_22 (seqO (cndX (.tmp 66) Out.nor (Out.ex 3)) (seqO (blkO 4 (seqO Imr78_23 (seqO Imr78_24 Imr78_25))) Imr78_26)))
def Imd78 : F → Hp → Out := (seqO Imr78_0 (seqO (seqO Imr78_1 (blkO 0 (seqO Imr78_2 (cndX (.tmp 13) (seqO Imr78_3 Out.ret) (seqO Imr78_4 (cndX (.tmp 15) (seqO Imr78_5 Out.ret) Out.nor)))))) (seqO Imr78_6 (seqO (seqO Imr78_7 (cndX (.tmp 22) (seqO (seqO Imr78_8 (cndX (.tmp 29) Imr78_9 Out.nor)) Imr78_10) Out.nor)) (seqO (seqO Imr78_11 (blkO 1 (loopO Imb78_12 lf))) (seqO Imr78_18 (seqO Imr78_19 (seqO Imr78_20 (seqO (seqO Imr78_21 (blkO 3 (loopO Imb78_22 lf))) (seqO Imr78_27 Out.ret))))))))))
def Ime78 : FuncId → Option Fun := fun f => match Nat.beq f 224 with | true => some ImF163 | false => match Nat.beq f 160 with | true => some ImF123 | false => match Nat.beq f 88 with | true => some ImF125 | false => none
def Imp78 : Plans := fun id => none
def ImF78 : Fun := funX Tryz.prog TryG Imk78 Ime78 Imp78 lf Tryz.f117
theorem ImD78 : denX Tryz.prog TryG Tryz.f117.ntmps Imk78 Ime78 Imp78 lf (codeOf Tryz.f117) = Imd78 := by kernel_rfl
theorem ImF78_eq (x0 x1 : V) (h : Hp) : ImF78 [x0, x1] h = outR Tryz.prog [.tmp 4] (Imd78 (T.set (some x1) (Pos.of 1) (T.set (some x0) (Pos.of 0) T.nil)) h) := funX_eq (by kernel_rfl) ImD78 (by kernel_rfl) h
theorem Imc78 : CallOk Tryz.prog TryG 117 ImF78 := funX_ok Trymix (callsOk_cons Imc163 (callsOk_cons Imc123 (callsOk_cons Imc125 callsOk_0))) Tryz.func117 (by kernel_rfl)
def Imk57 : Nat → Bool := fun t => memN t [0, 1]
def Imr57_0 (fr : F) (h : Hp) : Out :=
  gtO (T.get fr (Pos.of 1)) fun w3_1 => bndO (ImF78 [w3_1, (.str [32])] (bumpH 0 h)) fun v8 h4 =>
  gtO (T.get fr (Pos.of 0)) fun w0_0 => bndO (oNilCheck w0_0 h4) fun v5 _ =>
  bndO (oFieldAddr 5 v5 h4) fun v6 _ =>
  bndO (ImF123 [v6, v8] h4) fun v9 h5 =>
  Out.nor fr h5
def Imr57_1 (fr : F) (h : Hp) : Out :=
  gtO (T.get fr (Pos.of 0)) fun v0 => bndO (oNilCheck v0 h) fun v11 h1 =>
  bndO (oFieldAddr 5 v11 h1) fun v12 h2 =>
  bndO (ImF123 [v12, (.str [13, 10])] h2) fun v13 h3 =>
  Out.nor fr h3
def Imd57 : F → Hp → Out := (seqO Imr57_0 Imr57_1)
def Ime57 : FuncId → Option Fun := fun f => match Nat.beq f 117 with | true => some ImF78 | false => match Nat.beq f 160 with | true => some ImF123 | false => none
def Imp57 : Plans := fun id => match Nat.beq id 0 with | true => some ([0, 1, 3, 0, 8, 31], [(3, .pure), (4, .heavy), (0, .pure), (1, .pure), (2, .pure), (5, .heavy)]) | false => none
def ImF57 : Fun := funX Tryz.prog TryG Imk57 Ime57 Imp57 lf Tryz.f98
theorem ImD57 : denX Tryz.prog TryG Tryz.f98.ntmps Imk57 Ime57 Imp57 lf (codeOf Tryz.f98) = Imd57 := by kernel_rfl
theorem ImF57_eq (x0 x1 : V) (h : Hp) : ImF57 [x0, x1] h = outR Tryz.prog [] (Imd57 (T.set (some x1) (Pos.of 1) (T.set (some x0) (Pos.of 0) T.nil)) h) := funX_eq (by kernel_rfl) ImD57 (by kernel_rfl) h
theorem Imc57 : CallOk Tryz.prog TryG 98 ImF57 := funX_ok Trymix (callsOk_cons Imc78 (callsOk_cons Imc123 callsOk_0)) Tryz.func98 (by kernel_rfl)
def Imk59 : Nat → Bool := fun t => memN t [0, 2, 4]
def Ime59 : FuncId → Option Fun := fun f => none
def Imp59 : Plans := fun id => none
def ImF59 : Fun := funX Tryz.prog TryG Imk59 Ime59 Imp59 lf Tryz.f30
theorem Imc59 : CallOk Tryz.prog TryG 30 ImF59 := funX_ok Trymix callsOk_0 Tryz.func30 (by kernel_rfl)
def Imk56 : Nat → Bool := fun t => memN t [0]
def Imr56_0 (fr : F) (h : Hp) : Out :=
  bndO (oNew 192 [(.int .i64 0), (.str []), (.bool false), (.bool false), (.bool false)] h) fun v0 h0 =>
  Out.nor (T.set (some v0) (Pos.of 0) fr) h0
def Imr56_1 (fr : F) (h : Hp) : Out :=
  bndO (oBuild [(.int .i64 0), (.str []), (.bool false), (.bool false), (.bool false)] [(0, 1, (.int .i64 2)), (1, 1, (.str [119, 111, 114, 100, 115]))] h) fun v1 h0 =>
  gtO (T.get fr (Pos.of 0)) fun v0 => bndO (oStore 5 v0 v1 h0) fun _u1 h1 =>
  Out.nor fr h1
def Imd56 : F → Hp → Out := (seqO Imr56_0 (seqO Imr56_1 Out.ret))
def Ime56 : FuncId → Option Fun := fun f => none
def Imp56 : Plans := fun id => none
def ImF56 : Fun := funX Tryz.prog TryG Imk56 Ime56 Imp56 lf Tryz.f97
theorem ImD56 : denX Tryz.prog TryG Tryz.f97.ntmps Imk56 Ime56 Imp56 lf (codeOf Tryz.f97) = Imd56 := by kernel_rfl
theorem ImF56_eq  (h : Hp) : ImF56 [] h = outR Tryz.prog [.cell 0 192] (Imd56 T.nil h) := funX_eq (by kernel_rfl) ImD56 (by kernel_rfl) h
theorem Imc56 : CallOk Tryz.prog TryG 97 ImF56 := funX_ok Trymix callsOk_0 Tryz.func97 (by kernel_rfl)
def Imk86 : Nat → Bool := fun t => memN t [0]
def Imr86_0 (fr : F) (h : Hp) : Out :=
  bndO (oNew 192 [(.int .i64 0), (.str []), (.bool false), (.bool false), (.bool false)] h) fun v0 h0 =>
  Out.nor (T.set (some v0) (Pos.of 0) fr) h0
def Imr86_1 (fr : F) (h : Hp) : Out :=
  bndO (oBuild [(.int .i64 0), (.str []), (.bool false), (.bool false), (.bool false)] [(0, 1, (.int .i64 1)), (1, 1, (.str [115, 116, 97, 116, 101]))] h) fun v1 h0 =>
  gtO (T.get fr (Pos.of 0)) fun v0 => bndO (oStore 5 v0 v1 h0) fun _u1 h1 =>
  Out.nor fr h1
def Imd86 : F → Hp → Out := (seqO Imr86_0 (seqO Imr86_1 Out.ret))
def Ime86 : FuncId → Option Fun := fun f => none
def Imp86 : Plans := fun id => none
def ImF86 : Fun := funX Tryz.prog TryG Imk86 Ime86 Imp86 lf Tryz.f126
theorem ImD86 : denX Tryz.prog TryG Tryz.f126.ntmps Imk86 Ime86 Imp86 lf (codeOf Tryz.f126) = Imd86 := by kernel_rfl
theorem ImF86_eq  (h : Hp) : ImF86 [] h = outR Tryz.prog [.cell 0 192] (Imd86 T.nil h) := funX_eq (by kernel_rfl) ImD86 (by kernel_rfl) h
theorem Imc86 : CallOk Tryz.prog TryG 126 ImF86 := funX_ok Trymix callsOk_0 Tryz.func126 (by kernel_rfl)
def Imk119 : Nat → Bool := fun t => memN t [0, 1, 4]
def Imr119_0 (fr : F) (h : Hp) : Out :=
  Out.nor (T.set (some (.bool false)) (Pos.of 4) fr) h
def Imr119_1 (fr : F) (h : Hp) : Out :=
  gtO (T.get fr (Pos.of 1)) fun v1 => gtO (T.get fr (Pos.of 0)) fun v0 => bndO (oLenK 2 v0 h) fun v7 h2 =>
  bndO (oBin .lss .none v1 v7 h2) fun v8 h3 =>
  ifB v8 (bndO (oIdxS 3 v0 v1 h3) fun v12 h7 =>
  bndO (oFieldAddr 0 v12 h7) fun v13 h8 =>
  bndO (oLoad1 v13 h8) fun v14 h9 =>
  bndO (oBin .eql .none v14 (.int .i64 1) h9) fun v15 h10 =>
  Out.nor (T.set (some v15) (Pos.of 4) fr) h10) (Out.nor (T.set (some (.bool false)) (Pos.of 4) fr) h3)
def Imd119 : F → Hp → Out := (seqO Imr119_0 (seqO Imr119_1 Out.ret))
def Ime119 : FuncId → Option Fun := fun f => none
def Imp119 : Plans := fun id => none
def ImF119 : Fun := funX Tryz.prog TryG Imk119 Ime119 Imp119 lf Tryz.f157
theorem ImD119 : denX Tryz.prog TryG Tryz.f157.ntmps Imk119 Ime119 Imp119 lf (codeOf Tryz.f157) = Imd119 := by kernel_rfl
theorem ImF119_eq (x0 x1 : V) (h : Hp) : ImF119 [x0, x1] h = outR Tryz.prog [.tmp 4] (Imd119 (T.set (some x1) (Pos.of 1) (T.set (some x0) (Pos.of 0) T.nil)) h) := funX_eq (by kernel_rfl) ImD119 (by kernel_rfl) h
theorem Imc119 : CallOk Tryz.prog TryG 157 ImF119 := funX_ok Trymix callsOk_0 Tryz.func157 (by kernel_rfl)
def Imk58 : Nat → Bool := fun t => memN t [0, 1, 4, 5, 6, 8, 12, 13, 14, 15, 20]
def Ime58 : FuncId → Option Fun := fun f => none
def Imp58 : Plans := fun id => none
def ImF58 : Fun := funX Tryz.prog TryG Imk58 Ime58 Imp58 lf Tryz.f99
theorem Imc58 : CallOk Tryz.prog TryG 99 ImF58 := funX_ok Trymix callsOk_0 Tryz.func99 (by kernel_rfl)
def Imk19 : Nat → Bool := fun t => memN t [1, 4, 10]
def Imr19_0 (fr : F) (h : Hp) : Out :=
  bndO (oNew 192 [(.int .i64 0), (.str []), (.bool false), (.bool false), (.bool false)] h) fun v4 h0 =>
  Out.nor (T.set (some v4) (Pos.of 4) fr) h0
def Imr19_1 (fr : F) (h : Hp) : Out :=
  gtO (T.get fr (Pos.of 1)) fun v1 => bndO (oNilCheck v1 h) fun v6 h1 =>
  bndO (oFieldAddr 3 v6 h1) fun v7 h2 =>
  bndO (oLoad1 v7 h2) fun v8 h3 =>
  bndO (oLenK 2 v8 h3) fun v9 h4 =>
  bndO (oBin .gtr .none v9 (.int .i64 0) h4) fun v10 h5 =>
  Out.nor (T.set (some v10) (Pos.of 10) fr) h5
def Imr19_2 (fr : F) (h : Hp) : Out :=
  bndO (ImF56 [] h) fun v11 h0 =>
  gtO (T.get fr (Pos.of 4)) fun v4 => bndO (oStore 5 v4 v11 h0) fun _u1 h1 =>
  Out.nor fr h1
def Imr19_3 (fr : F) (h : Hp) : Out :=
  bndO (oBuild [(.int .i64 0), (.str []), (.bool false), (.bool false), (.bool false)] [] h) fun v12 h0 =>
  gtO (T.get fr (Pos.of 4)) fun v4 => bndO (oStore 5 v4 v12 h0) fun _u1 h1 =>
  Out.nor fr h1
def Imd19 : F → Hp → Out := (seqO Imr19_0 (seqO (seqO Imr19_1 (cndX (.tmp 10) (seqO Imr19_2 Out.ret) Out.nor)) (seqO Imr19_3 Out.ret)))
def Ime19 : FuncId → Option Fun := fun f => match Nat.beq f 97 with | true => some ImF56 | false => none
def Imp19 : Plans := fun id => none
def ImF19 : Fun := funX Tryz.prog TryG Imk19 Ime19 Imp19 lf Tryz.f51
theorem ImD19 : denX Tryz.prog TryG Tryz.f51.ntmps Imk19 Ime19 Imp19 lf (codeOf Tryz.f51) = Imd19 := by kernel_rfl
theorem ImF19_eq (x0 x1 : V) (h : Hp) : ImF19 [x0, x1] h = outR Tryz.prog [.cell 4 192] (Imd19 (T.set (some x1) (Pos.of 1) T.nil) h) := funX_eq (by kernel_rfl) ImD19 (by kernel_rfl) h
theorem Imc19 : CallOk Tryz.prog TryG 51 ImF19 := funX_ok Trymix (callsOk_cons Imc56 callsOk_0) Tryz.func51 (by kernel_rfl)
def Imk18 : Nat → Bool := fun t => memN t [1, 4, 10]
def Imr18_0 (fr : F) (h : Hp) : Out :=
  bndO (oNew 192 [(.int .i64 0), (.str []), (.bool false), (.bool false), (.bool false)] h) fun v4 h0 =>
  Out.nor (T.set (some v4) (Pos.of 4) fr) h0
def Imr18_1 (fr : F) (h : Hp) : Out :=
  gtO (T.get fr (Pos.of 1)) fun v1 => bndO (oNilCheck v1 h) fun v6 h1 =>
  bndO (oFieldAddr 3 v6 h1) fun v7 h2 =>
  bndO (oLoad1 v7 h2) fun v8 h3 =>
  bndO (oLenK 2 v8 h3) fun v9 h4 =>
  bndO (oBin .gtr .none v9 (.int .i64 0) h4) fun v10 h5 =>
  Out.nor (T.set (some v10) (Pos.of 10) fr) h5
def Imr18_2 (fr : F) (h : Hp) : Out :=
  bndO (ImF56 [] h) fun v11 h0 =>
  gtO (T.get fr (Pos.of 4)) fun v4 => bndO (oStore 5 v4 v11 h0) fun _u1 h1 =>
  Out.nor fr h1
def Imr18_3 (fr : F) (h : Hp) : Out :=
  gtO (T.get fr (Pos.of 1)) fun v1 => bndO (oBuildSlice 9 [(.str [])] 1 [(0, 1, (.str [42, 32, 67, 65, 80, 65, 66, 73, 76, 73, 84, 89, 32, 73, 77, 65, 80, 52, 114, 101, 118, 49, 32, 76, 73, 84, 69, 82, 65, 76, 43, 32, 85, 73, 68, 80, 76, 85, 83, 32, 77, 79, 86, 69, 32, 67, 79, 78, 68, 83, 84, 79, 82, 69]))] h) fun v13 h1 =>
  bndO (ImF57 [v1, v13] h1) fun v14 h2 =>
  Out.nor fr h2
def Imr18_4 (fr : F) (h : Hp) : Out :=
  bndO (oBuild [(.int .i64 0), (.str []), (.bool false), (.bool false), (.bool false)] [] h) fun v15 h0 =>
  gtO (T.get fr (Pos.of 4)) fun v4 => bndO (oStore 5 v4 v15 h0) fun _u1 h1 =>
  Out.nor fr h1
def Imd18 : F → Hp → Out := (seqO Imr18_0 (seqO (seqO Imr18_1 (cndX (.tmp 10) (seqO Imr18_2 Out.ret) Out.nor)) (seqO Imr18_3 (seqO Imr18_4 Out.ret))))
def Ime18 : FuncId → Option Fun := fun f => match Nat.beq f 97 with | true => some ImF56 | false => match Nat.beq f 98 with | true => some ImF57 | false => none
def Imp18 : Plans := fun id => none
def ImF18 : Fun := funX Tryz.prog TryG Imk18 Ime18 Imp18 lf Tryz.f50
theorem ImD18 : denX Tryz.prog TryG Tryz.f50.ntmps Imk18 Ime18 Imp18 lf (codeOf Tryz.f50) = Imd18 := by kernel_rfl
theorem ImF18_eq (x0 x1 : V) (h : Hp) : ImF18 [x0, x1] h = outR Tryz.prog [.cell 4 192] (Imd18 (T.set (some x1) (Pos.of 1) T.nil) h) := funX_eq (by kernel_rfl) ImD18 (by kernel_rfl) h
theorem Imc18 : CallOk Tryz.prog TryG 50 ImF18 := funX_ok Trymix (callsOk_cons Imc56 (callsOk_cons Imc57 callsOk_0)) Tryz.func50 (by kernel_rfl)
def Imk20 : Nat → Bool := fun t => memN t [1, 4, 10]
def Imr20_0 (fr : F) (h : Hp) : Out :=
  bndO (oNew 192 [(.int .i64 0), (.str []), (.bool false), (.bool false), (.bool false)] h) fun v4 h0 =>
  Out.nor (T.set (some v4) (Pos.of 4) fr) h0
def Imr20_1 (fr : F) (h : Hp) : Out :=
  gtO (T.get fr (Pos.of 1)) fun v1 => bndO (oNilCheck v1 h) fun v6 h1 =>
  bndO (oFieldAddr 3 v6 h1) fun v7 h2 =>
  bndO (oLoad1 v7 h2) fun v8 h3 =>
  bndO (oLenK 2 v8 h3) fun v9 h4 =>
  bndO (oBin .gtr .none v9 (.int .i64 0) h4) fun v10 h5 =>
  Out.nor (T.set (some v10) (Pos.of 10) fr) h5
def Imr20_2 (fr : F) (h : Hp) : Out :=
  bndO (ImF56 [] h) fun v11 h0 =>
  gtO (T.get fr (Pos.of 4)) fun v4 => bndO (oStore 5 v4 v11 h0) fun _u1 h1 =>
  Out.nor fr h1
def Imr20_3 (fr : F) (h : Hp) : Out :=
  gtO (T.get fr (Pos.of 1)) fun v1 => bndO (oBuildSlice 9 [(.str [])] 1 [(0, 1, (.str [42, 32, 66, 89, 69]))] h) fun v13 h1 =>
  bndO (ImF57 [v1, v13] h1) fun v14 h2 =>
  Out.nor fr h2
def Imr20_4 (fr : F) (h : Hp) : Out :=
  bndO (oBuild [(.int .i64 0), (.str []), (.bool false), (.bool false), (.bool false)] [(2, 1, (.bool true)), (3, 1, (.bool true))] h) fun v15 h0 =>
  gtO (T.get fr (Pos.of 4)) fun v4 => bndO (oStore 5 v4 v15 h0) fun _u1 h1 =>
  Out.nor fr h1
def Imd20 : F → Hp → Out := (seqO Imr20_0 (seqO (seqO Imr20_1 (cndX (.tmp 10) (seqO Imr20_2 Out.ret) Out.nor)) (seqO Imr20_3 (seqO Imr20_4 Out.ret))))
def Ime20 : FuncId → Option Fun := fun f => match Nat.beq f 97 with | true => some ImF56 | false => match Nat.beq f 98 with | true => some ImF57 | false => none
def Imp20 : Plans := fun id => none
def ImF20 : Fun := funX Tryz.prog TryG Imk20 Ime20 Imp20 lf Tryz.f52
theorem ImD20 : denX Tryz.prog TryG Tryz.f52.ntmps Imk20 Ime20 Imp20 lf (codeOf Tryz.f52) = Imd20 := by kernel_rfl
theorem ImF20_eq (x0 x1 : V) (h : Hp) : ImF20 [x0, x1] h = outR Tryz.prog [.cell 4 192] (Imd20 (T.set (some x1) (Pos.of 1) T.nil) h) := funX_eq (by kernel_rfl) ImD20 (by kernel_rfl) h
theorem Imc20 : CallOk Tryz.prog TryG 52 ImF20 := funX_ok Trymix (callsOk_cons Imc56 (callsOk_cons Imc57 callsOk_0)) Tryz.func52 (by kernel_rfl)
def Imk21 : Nat → Bool := fun t => memN t [0, 1, 4, 5, 6, 7, 14, 34]
def Ime21 : FuncId → Option Fun := fun f => match Nat.beq f 99 with | true => some ImF58 | false => match Nat.beq f 97 with | true => some ImF56 | false => match Nat.beq f 30 with | true => some ImF59 | false => none
def Imp21 : Plans := fun id => match Nat.beq id 5 with | true => some ([0, 1, 3, 0, 8, 31, 63, 127, 255, 511, 127, 1151, 4095, 8191], [(0, .pure), (1, .pure), (2, .read 0), (3, .pure), (4, .read 0), (5, .pure), (6, .pure), (7, .pure), (8, .pure), (9, .read 0), (10, .pure), (11, .read 0), (12, .pure), (13, .pure)]) | false => none
def ImF21 : Fun := funX Tryz.prog TryG Imk21 Ime21 Imp21 lf Tryz.f53
theorem Imc21 : CallOk Tryz.prog TryG 53 ImF21 := funX_ok Trymix (callsOk_cons Imc58 (callsOk_cons Imc56 (callsOk_cons Imc59 callsOk_0))) Tryz.func53 (by kernel_rfl)
def Imk121 : Nat → Bool := fun t => memN t [0, 1, 2, 6, 7, 8, 9, 11, 17, 59, 62, 63, 70, 76, 84]
def Ime121 : FuncId → Option Fun := fun f => match Nat.beq f 157 with | true => some ImF119 | false => match Nat.beq f 159 with | true => some ImF122 | false => match Nat.beq f 126 with | true => some ImF86 | false => match Nat.beq f 51 with | true => some ImF19 | false => match Nat.beq f 50 with | true => some ImF18 | false => match Nat.beq f 52 with | true => some ImF20 | false => match Nat.beq f 53 with | true => some ImF21 | false => none
def Imr121_0 (fr : F) (h : Hp) : Out :=
  bndO (oNew 192 [(.int .i64 0), (.str []), (.bool false), (.bool false), (.bool false)] h) fun v6 h0 =>
  Out.nor (T.set (some v6) (Pos.of 6) fr) h0
def Imr121_1 (fr : F) (h : Hp) : Out :=
  gtO (T.get fr (Pos.of 2)) fun v2 => bndO (oBin .eql .none v2 (.str [117, 105, 100]) h) fun v11 h1 =>
  Out.nor (T.set (some v11) (Pos.of 11) fr) h1
def Imr121_2 (fr : F) (h : Hp) : Out :=
  gtO (T.get fr (Pos.of 1)) fun v1 => bndO (oNilCheck v1 h) fun v13 h1 =>
  bndO (oFieldAddr 3 v13 h1) fun v14 h2 =>
  bndO (oLoad1 v14 h2) fun v15 h3 =>
  bndO (ImF119 [v15, (.int .i64 0)] h3) fun v16 h4 =>
  bndO (oUn .not v16 h4) fun v17 h5 =>
  Out.nor (T.set (some v17) (Pos.of 17) fr) h5
def Imr121_3 (fr : F) (h : Hp) : Out :=
  bndO (oBuild [(.int .i64 0), (.str []), (.bool false), (.bool false), (.bool false)] [(0, 1, (.int .i64 2)), (1, 1, (.str [99, 111, 109, 109, 97, 110, 100]))] h) fun v18 h0 =>
  gtO (T.get fr (Pos.of 6)) fun v6 => bndO (oStore 5 v6 v18 h0) fun _u1 h1 =>
  Out.nor fr h1
def Imr121_4 (fr : F) (h : Hp) : Out :=
  gtO (T.get fr (Pos.of 1)) fun v1 => bndO (oNilCheck v1 h) fun v20 h1 =>
  bndO (oFieldAddr 3 v20 h1) fun v21 h2 =>
  bndO (oLoad1 v21 h2) fun v22 h3 =>
  bndO (oIdxS 3 v22 (.int .i64 0) h3) fun v23 h4 =>
  bndO (oFieldAddr 1 v23 h4) fun v24 h5 =>
  bndO (oLoad1 v24 h5) fun v25 h6 =>
  bndO (ImF122 [v25] h6) fun v26 h7 =>
  Out.nor (T.set (some v26) (Pos.of 2) fr) h7
def Imr121_5 (fr : F) (h : Hp) : Out :=
  gtO (T.get fr (Pos.of 1)) fun v1 => bndO (oNilCheck v1 h) fun v30 h3 =>
  bndO (oFieldAddr 3 v30 h3) fun v31 h4 =>
  bndO (oLoad1 v31 h4) fun v32 h5 =>
  bndO (oSlice 3 v32 (some (.int .i64 1)) none none h5) fun v33 h6 =>
  bndO (oNilCheck v1 h6) fun v34 h7 =>
  bndO (oFieldAddr 3 v34 h7) fun v35 h8 =>
  bndO (oStore 1 v35 v33 h8) fun _u9 h9 =>
  bndO (oNilCheck v1 h9) fun v36 h10 =>
  bndO (oFieldAddr 4 v36 h10) fun v37 h11 =>
  bndO (oStore 1 v37 (.bool true) h11) fun _u12 h12 =>
  Out.nor fr h12
def Imr121_6 (fr : F) (h : Hp) : Out :=
  gtO (T.get fr (Pos.of 0)) fun v0 => bndO (oNilCheck v0 h) fun v40 h1 =>
  bndO (oFieldAddr 4 v40 h1) fun v41 h2 =>
  bndO (oLoad1 v41 h2) fun v42 h3 =>
  gtO (T.get fr (Pos.of 2)) fun v2 => bndO (oLookK .string true (.agg (.cons .nilf (.cons (.int .i64 0) (.cons (.bool false) .nil)))) v42 v2 h3) fun v44 h5 =>
  bndO (oExtract 0 v44 h5) fun v45 h7 =>
  bndO (oExtract 1 v44 h7) fun v46 h8 =>
  bndO (oNew 148 [.nilf, (.int .i64 0), (.bool false)] h8) fun v7 h9 =>
  bndO (oStore 3 v7 v45 h9) fun _u10 h10 =>
  Out.nor (T.set (some v46) (Pos.of 8) (T.set (some v7) (Pos.of 7) fr)) h10
def Imr121_7 (fr : F) (h : Hp) : Out :=
  gtO (T.get fr (Pos.of 8)) fun v8 => bndO (oUn .not v8 h) fun v48 h1 =>
  ifB v48 (Out.nor (T.set (some (.bool true)) (Pos.of 59) fr) h1) (gtO (T.get fr (Pos.of 1)) fun v1 => bndO (oNilCheck v1 h1) fun v51 h4 =>
  bndO (oFieldAddr 4 v51 h4) fun v52 h5 =>
  bndO (oLoad1 v52 h5) fun v53 h6 =>
  ifB v53 (gtO (T.get fr (Pos.of 7)) fun v7 => bndO (oFieldAddr 2 v7 h6) fun v55 h8 =>
  bndO (oLoad1 v55 h8) fun v56 h9 =>
  bndO (oUn .not v56 h9) fun v57 h10 =>
  Out.nor (T.set (some v57) (Pos.of 59) fr) h10) (Out.nor (T.set (some (.bool false)) (Pos.of 59) fr) h6))
def Imr121_8 (fr : F) (h : Hp) : Out :=
  bndO (oBuild [(.int .i64 0), (.str []), (.bool false), (.bool false), (.bool false)] [(0, 1, (.int .i64 2)), (1, 1, (.str [99, 111, 109, 109, 97, 110, 100]))] h) fun v60 h0 =>
  gtO (T.get fr (Pos.of 6)) fun v6 => bndO (oStore 5 v6 v60 h0) fun _u1 h1 =>
  Out.nor fr h1
def Imr121_9 (fr : F) (h : Hp) : Out :=
  Out.nor (T.set (some (.bool true)) (Pos.of 9) fr) h
def Imr121_10 (fr : F) (h : Hp) : Out :=
  gtO (T.get fr (Pos.of 7)) fun v7 => bndO (oFieldAddr 1 v7 h) fun v61 h0 =>
  bndO (oLoad1 v61 h0) fun v62 h1 =>
  Out.nor (T.set (some v62) (Pos.of 62) fr) h1
def Imr121_11 (fr : F) (h : Hp) : Out :=
  gtO (T.get fr (Pos.of 62)) fun v62 => bndO (oBin .eql .none v62 (.int .i64 1) h) fun v64 h0 =>
  Out.nor (T.set (some v64) (Pos.of 63) fr) h0
def Imr121_12 (fr : F) (h : Hp) : Out :=
  gtO (T.get fr (Pos.of 0)) fun v0 => bndO (oNilCheck v0 h) fun v66 h1 =>
  bndO (oFieldAddr 0 v66 h1) fun v67 h2 =>
  bndO (oLoad1 v67 h2) fun v68 h3 =>
  bndO (oUn .not v68 h3) fun v69 h4 =>
  Out.nor (T.set (some v69) (Pos.of 9) fr) h4
def Imr121_13 (fr : F) (h : Hp) : Out :=
  gtO (T.get fr (Pos.of 62)) fun v62 => bndO (oBin .eql .none v62 (.int .i64 2) h) fun v71 h0 =>
  Out.nor (T.set (some v71) (Pos.of 70) fr) h0
def Imr121_14 (fr : F) (h : Hp) : Out :=
  gtO (T.get fr (Pos.of 0)) fun v0 => bndO (oNilCheck v0 h) fun v73 h1 =>
  bndO (oFieldAddr 0 v73 h1) fun v74 h2 =>
  bndO (oLoad1 v74 h2) fun v75 h3 =>
  Out.nor (T.set (some v75) (Pos.of 9) fr) h3
def Imr121_15 (fr : F) (h : Hp) : Out :=
  gtO (T.get fr (Pos.of 62)) fun v62 => bndO (oBin .eql .none v62 (.int .i64 3) h) fun v77 h0 =>
  Out.nor (T.set (some v77) (Pos.of 76) fr) h0
def Imr121_16 (fr : F) (h : Hp) : Out :=
  gtO (T.get fr (Pos.of 0)) fun v0 => bndO (oNilCheck v0 h) fun v79 h1 =>
  bndO (oFieldAddr 1 v79 h1) fun v80 h2 =>
  bndO (oLoad1 v80 h2) fun v81 h3 =>
  bndO (oBin .neq (.ptr 3) v81 .nilp h3) fun v82 h4 =>
  Out.nor (T.set (some v82) (Pos.of 9) fr) h4
def Imr121_17 (fr : F) (h : Hp) : Out :=
  gtO (T.get fr (Pos.of 9)) fun v9 => bndO (oUn .not v9 h) fun v84 h1 =>
  Out.nor (T.set (some v84) (Pos.of 84) fr) h1
def Imr121_18 (fr : F) (h : Hp) : Out :=
  bndO (ImF86 [] h) fun v85 h0 =>
  gtO (T.get fr (Pos.of 6)) fun v6 => bndO (oStore 5 v6 v85 h0) fun _u1 h1 =>
  Out.nor fr h1
def Imr121_19 (fr : F) (h : Hp) : Out :=
  gtO (T.get fr (Pos.of 7)) fun v7 => bndO (oFieldAddr 0 v7 h) fun v86 h0 =>
  bndO (oLoad1 v86 h0) fun v87 h1 =>
  gtO (T.get fr (Pos.of 1)) fun v1 => bndO (oCallV Ime121 v87 [v1] h1) fun v89 h3 =>
  gtO (T.get fr (Pos.of 6)) fun v6 => bndO (oStore 5 v6 v89 h3) fun _u4 h4 =>
  Out.nor fr h4
def Imd121 : F → Hp → Out := (seqO Imr121_0 (seqO (seqO Imr121_1 (cndX (.tmp 11) (seqO (seqO Imr121_2 (cndX (.tmp 17) (seqO Imr121_3 Out.ret) Out.nor)) (seqO Imr121_4 Imr121_5)) Out.nor)) (seqO Imr121_6 (seqO (seqO Imr121_7 (cndX (.tmp 59) (seqO Imr121_8 Out.ret) Out.nor)) (seqO Imr121_9 (seqO (seqO Imr121_10 (blkO 0 (seqO Imr121_11 (cndX (.tmp 63) Imr121_12 (seqO Imr121_13 (cndX (.tmp 70) Imr121_14 (seqO Imr121_15 (cndX (.tmp 76) Imr121_16 Out.nor)))))))) (seqO (seqO Imr121_17 (cndX (.tmp 84) (seqO Imr121_18 Out.ret) Out.nor)) (seqO Imr121_19 Out.ret))))))))
def Imp121 : Plans := fun id => none
def ImF121 : Fun := funX Tryz.prog TryG Imk121 Ime121 Imp121 lf Tryz.f158
theorem ImD121 : denX Tryz.prog TryG Tryz.f158.ntmps Imk121 Ime121 Imp121 lf (codeOf Tryz.f158) = Imd121 := by kernel_rfl
theorem ImF121_eq (x0 x1 x2 : V) (h : Hp) : ImF121 [x0, x1, x2] h = outR Tryz.prog [.cell 6 192] (Imd121 (T.set (some x2) (Pos.of 2) (T.set (some x1) (Pos.of 1) (T.set (some x0) (Pos.of 0) T.nil))) h) := funX_eq (by kernel_rfl) ImD121 (by kernel_rfl) h
theorem Imc121 : CallOk Tryz.prog TryG 158 ImF121 := funX_ok Trymix (callsOk_cons Imc119 (callsOk_cons Imc122 (callsOk_cons Imc86 (callsOk_cons Imc19 (callsOk_cons Imc18 (callsOk_cons Imc20 (callsOk_cons Imc21 callsOk_0))))))) Tryz.func158 (by kernel_rfl)
def ImF124 : Fun := funX Tryz.prog TryG (fun _ => true) (fun _ => none) (fun _ => none) lf Tryz.f161
theorem Imc124 : CallOk Tryz.prog TryG 161 ImF124 := funX_ok Trymix callsOk_0 Tryz.func161 (by kernel_rfl)
def Imk42 : Nat → Bool := fun t => memN t [0, 1, 2, 3, 7, 8, 9, 10, 11, 12, 13, 20, 24, 66, 76, 88, 104]
def Imr42_0 (fr : F) (h : Hp) : Out :=
  gtO (T.get fr (Pos.of 3)) fun v3 => bndO (oBox 155 v3 h) fun v7 h0 =>
  Out.nor (T.set (some (.bool false)) (Pos.of 9) (T.set (some (.str [])) (Pos.of 8) (T.set (some v7) (Pos.of 7) fr))) h0
def Imr42_1 (fr : F) (h : Hp) : Out :=
  gtO (T.get fr (Pos.of 0)) fun v0 => bndO (oBin .eql (.ptr 5) v0 .nilp h) fun v15 h1 =>
  ifB v15 (Out.nor (T.set (some (.bool true)) (Pos.of 13) fr) h1) (gtO (T.get fr (Pos.of 1)) fun v1 => bndO (oBin .eql (.ptr 16) v1 .nilp h1) fun v18 h4 =>
  Out.nor (T.set (some v18) (Pos.of 13) fr) h4)
def Imr42_2 (fr : F) (h : Hp) : Out :=
  Out.nor (T.set (some (.bool false)) (Pos.of 9) (T.set (some (.str [])) (Pos.of 8) fr)) h
def Imr42_3 (fr : F) (h : Hp) : Out :=
  gtO (T.get fr (Pos.of 7)) fun v7 => bndO (oFieldAddr 0 v7 h) fun v21 h0 =>
  bndO (oLoad1 v21 h0) fun v22 h1 =>
  bndO (oBin .eql .none v22 (.int .i64 2) h1) fun v23 h2 =>
  Out.nor (T.set (some v23) (Pos.of 20) fr) h2
def Imr42_4 (fr : F) (h : Hp) : Out :=
  Out.nor (T.set (some (.bool true)) (Pos.of 9) (T.set (some (.str [43, 32, 103, 111, 32, 111, 110, 13, 10])) (Pos.of 8) fr)) h
def Imr42_5 (fr : F) (h : Hp) : Out :=
  gtO (T.get fr (Pos.of 7)) fun v7 => bndO (oFieldAddr 0 v7 h) fun v25 h0 =>
  bndO (oLoad1 v25 h0) fun v26 h1 =>
  bndO (oBin .neq .none v26 (.int .i64 1) h1) fun v27 h2 =>
  ifB v27 (Out.nor (T.set (some (.bool true)) (Pos.of 24) fr) h2) (bndO (oFieldAddr 1 v7 h2) fun v29 h4 =>
  bndO (oLoad1 v29 h4) fun v30 h5 =>
  bndO (ImF119 [v30, (.int .i64 0)] h5) fun v31 h6 =>
  bndO (oUn .not v31 h6) fun v32 h7 =>
  ifB v32 (Out.nor (T.set (some (.bool true)) (Pos.of 24) fr) h7) (bndO (oFieldAddr 1 v7 h7) fun v35 h10 =>
  bndO (oLoad1 v35 h10) fun v36 h11 =>
  bndO (ImF119 [v36, (.int .i64 1)] h11) fun v37 h12 =>
  bndO (oUn .not v37 h12) fun v38 h13 =>
  Out.nor (T.set (some v38) (Pos.of 24) fr) h13))
def Imr42_6 (fr : F) (h : Hp) : Out :=
  Out.nor (T.set (some (.bool true)) (Pos.of 9) (T.set (some (.str [42, 32, 66, 65, 68, 32, 108, 105, 110, 101, 13, 10])) (Pos.of 8) fr)) h
def Imr42_7 (fr : F) (h : Hp) : Out :=
  gtO (T.get fr (Pos.of 0)) fun v0 => bndO (oNilCheck v0 h) fun v41 h1 =>
  bndO (oFieldAddr 3 v41 h1) fun v42 h2 =>
  bndO (ImF120 [v42, (.int .i64 1)] h2) fun v43 h3 =>
  Out.nor fr h3
def Imr42_8 (fr : F) (h : Hp) : Out :=
  gtO (T.get fr (Pos.of 0)) fun v0 => gtO (T.get fr (Pos.of 1)) fun v1 => gtO (T.get fr (Pos.of 2)) fun v2 => gtO (T.get fr (Pos.of 7)) fun v7 => bndO (oFieldAddr 1 v7 h) fun v47 h3 =>
  bndO (oLoad1 v47 h3) fun v48 h4 =>
  bndO (oSlice 3 v48 (some (.int .i64 2)) none none h4) fun v49 h5 =>
  bndO (oBuild [.nilp, .nilp, (.int .i64 0), .nils, (.bool false), .nilp, .nils] [(0, 1, v0), (1, 1, v1), (2, 1, v2), (3, 1, v49)] h5) fun v50 h6 =>
  bndO (oBox 194 v50 h6) fun v51 h7 =>
  Out.nor (T.set (some v51) (Pos.of 10) fr) h7
def Imr42_9 (fr : F) (h : Hp) : Out :=
  gtO (T.get fr (Pos.of 0)) fun v0 => gtO (T.get fr (Pos.of 10)) fun v10 => gtO (T.get fr (Pos.of 7)) fun v7 => bndO (oFieldAddr 1 v7 h) fun v54 h2 =>
  bndO (oLoad1 v54 h2) fun v55 h3 =>
  bndO (oIdxS 3 v55 (.int .i64 1) h3) fun v56 h4 =>
  bndO (oFieldAddr 1 v56 h4) fun v57 h5 =>
  bndO (oLoad1 v57 h5) fun v58 h6 =>
  bndO (ImF122 [v58] h6) fun v59 h7 =>
  bndO (ImF121 [v0, v10, v59] h7) fun v60 h8 =>
  bndO (oNew 192 [(.int .i64 0), (.str []), (.bool false), (.bool false), (.bool false)] h8) fun v11 h9 =>
  bndO (oStore 5 v11 v60 h9) fun _u10 h10 =>
  Out.nor (T.set (some v11) (Pos.of 11) fr) h10
def Imr42_10 (fr : F) (h : Hp) : Out :=
  gtO (T.get fr (Pos.of 7)) fun v7 => bndO (oFieldAddr 1 v7 h) fun v61 h0 =>
  bndO (oLoad1 v61 h0) fun v62 h1 =>
  bndO (oIdxS 3 v62 (.int .i64 0) h1) fun v63 h2 =>
  bndO (oFieldAddr 1 v63 h2) fun v64 h3 =>
  bndO (oLoad1 v64 h3) fun v65 h4 =>
  Out.nor (T.set (some v65) (Pos.of 12) fr) h4
def Imr42_11 (fr : F) (h : Hp) : Out :=
  gtO (T.get fr (Pos.of 11)) fun v11 => bndO (oFieldAddr 0 v11 h) fun v67 h0 =>
  bndO (oLoad1 v67 h0) fun v68 h1 =>
  bndO (oBin .eql .none v68 (.int .i64 1) h1) fun v69 h2 =>
  Out.nor (T.set (some v69) (Pos.of 66) fr) h2
def Imr42_12 (fr : F) (h : Hp) : Out :=
  gtO (T.get fr (Pos.of 12)) fun v12 => bndO (oBin .add .none v12 (.str [32, 78, 79, 32]) h) fun v71 h1 =>
  gtO (T.get fr (Pos.of 11)) fun v11 => bndO (oFieldAddr 1 v11 h1) fun v72 h2 =>
  bndO (oLoad1 v72 h2) fun v73 h3 =>
  bndO (oBin .add .none v71 v73 h3) fun v74 h4 =>
  bndO (oBin .add .none v74 (.str [13, 10]) h4) fun v75 h5 =>
  Out.nor (T.set (some (.bool true)) (Pos.of 9) (T.set (some v75) (Pos.of 8) fr)) h5
def Imr42_13 (fr : F) (h : Hp) : Out :=
  gtO (T.get fr (Pos.of 11)) fun v11 => bndO (oFieldAddr 0 v11 h) fun v77 h0 =>
  bndO (oLoad1 v77 h0) fun v78 h1 =>
  bndO (oBin .eql .none v78 (.int .i64 2) h1) fun v79 h2 =>
  Out.nor (T.set (some v79) (Pos.of 76) fr) h2
def Imr42_14 (fr : F) (h : Hp) : Out :=
  gtO (T.get fr (Pos.of 12)) fun v12 => bndO (oBin .add .none v12 (.str [32, 66, 65, 68, 32]) h) fun v81 h1 =>
  gtO (T.get fr (Pos.of 11)) fun v11 => bndO (oFieldAddr 1 v11 h1) fun v82 h2 =>
  bndO (oLoad1 v82 h2) fun v83 h3 =>
  bndO (oBin .add .none v81 v83 h3) fun v84 h4 =>
  bndO (oBin .add .none v84 (.str [13, 10]) h4) fun v85 h5 =>
  Out.nor (T.set (some (.bool true)) (Pos.of 9) (T.set (some v85) (Pos.of 8) fr)) h5
def Imr42_15 (fr : F) (h : Hp) : Out :=
  gtO (T.get fr (Pos.of 11)) fun v11 => bndO (oFieldAddr 3 v11 h) fun v86 h0 =>
  bndO (oLoad1 v86 h0) fun v87 h1 =>
  bndO (oUn .not v87 h1) fun v88 h2 =>
  Out.nor (T.set (some v88) (Pos.of 88) fr) h2
def Imr42_16 (fr : F) (h : Hp) : Out :=
  gtO (T.get fr (Pos.of 0)) fun w3_0 => bndO (oNilCheck w3_0 (bumpH 0 h)) fun v93 _ =>
  bndO (oFieldAddr 1 v93 (bumpH 0 h)) fun v94 _ =>
  bndO (oLoad1 v94 (bumpH 0 h)) fun v95 _ =>
  gtO (T.get fr (Pos.of 1)) fun w7_1 => gtO (T.get fr (Pos.of 11)) fun w8_11 => bndO (oFieldAddr 4 w8_11 (bumpH 0 h)) fun v97 _ =>
  bndO (oLoad1 v97 (bumpH 0 h)) fun v98 _ =>
  bndO (oUn .not v98 (bumpH 0 h)) fun v99 _ =>
  bndO (ImF124 [v95, w7_1, v99] (bumpH 0 h)) fun v100 h11 =>
  gtO (T.get fr (Pos.of 10)) fun w0_10 => bndO (oNilCheck w0_10 h11) fun v90 _ =>
  bndO (oFieldAddr 5 v90 h11) fun v91 _ =>
  bndO (ImF123 [v91, v100] h11) fun v101 h12 =>
  Out.nor fr h12
def Imr42_17 (fr : F) (h : Hp) : Out :=
  gtO (T.get fr (Pos.of 11)) fun v11 => bndO (oFieldAddr 1 v11 h) fun v102 h0 =>
  bndO (oLoad1 v102 h0) fun v103 h1 =>
  bndO (oBin .neq .none v103 (.str []) h1) fun v104 h2 =>
  Out.nor (T.set (some v104) (Pos.of 104) fr) h2
def Imr42_18 (fr : F) (h : Hp) : Out :=
  gtO (T.get fr (Pos.of 10)) fun v10 => gtO (T.get fr (Pos.of 12)) fun v12 => gtO (T.get fr (Pos.of 11)) fun v11 => bndO (oFieldAddr 1 v11 h) fun v107 h2 =>
  bndO (oLoad1 v107 h2) fun v108 h3 =>
  bndO (oBin .add .none (.str [91]) v108 h3) fun v109 h4 =>
  bndO (oBin .add .none v109 (.str [93]) h4) fun v110 h5 =>
  bndO (oBuildSlice 9 [(.str []), (.str []), (.str []), (.str [])] 4 [(0, 1, v12), (1, 1, (.str [79, 75])), (2, 1, v110), (3, 1, (.str [100, 111, 110, 101]))] h5) fun v111 h6 =>
  bndO (ImF57 [v10, v111] h6) fun v112 h7 =>
  Out.nor fr h7
def Imr42_19 (fr : F) (h : Hp) : Out :=
  gtO (T.get fr (Pos.of 10)) fun v10 => gtO (T.get fr (Pos.of 12)) fun v12 => bndO (oBuildSlice 9 [(.str []), (.str [])] 2 [(0, 1, v12), (1, 1, (.str [79, 75, 32, 100, 111, 110, 101]))] h) fun v115 h2 =>
  bndO (ImF57 [v10, v115] h2) fun v116 h3 =>
  Out.nor fr h3
def Imr42_20 (fr : F) (h : Hp) : Out :=
  gtO (T.get fr (Pos.of 10)) fun w0_10 => bndO (oNilCheck w0_10 (bumpH 0 h)) fun v118 _ =>
  bndO (oFieldAddr 5 v118 (bumpH 0 h)) fun v119 _ =>
  bndO (ImF125 [v119] (bumpH 0 h)) fun v120 h3 =>
  gtO (T.get fr (Pos.of 11)) fun w4_11 => bndO (oFieldAddr 2 w4_11 h3) fun v121 _ =>
  bndO (oLoad1 v121 h3) fun v122 _ => chk (fun h => oLoad1 v121 h) v122 (
  bndO (oUn .not v122 h3) fun v123 _ =>
  Out.nor (T.set (some v123) (Pos.of 9) (T.set (some v120) (Pos.of 8) fr)) h3) 1 [(bumpH 0 h)]
def Imd42 : F → Hp → Out := (seqO Imr42_0 (seqO (blkO 0 (seqO Imr42_1 (cndX (.tmp 13) (seqO Imr42_2 Out.ret) (seqO Imr42_3 (cndX (.tmp 20) (seqO Imr42_4 Out.ret) (seqO Imr42_5 (cndX (.tmp 24) (seqO Imr42_6 Out.ret) Out.nor))))))) (seqO Imr42_7 (seqO Imr42_8 (seqO Imr42_9 (seqO Imr42_10 (seqO (blkO 1 (seqO Imr42_11 (cndX (.tmp 66) (seqO Imr42_12 Out.ret) (seqO Imr42_13 (cndX (.tmp 76) (seqO Imr42_14 Out.ret) Out.nor))))) (seqO (seqO Imr42_15 (cndX (.tmp 88) Imr42_16 Out.nor)) (seqO (seqO Imr42_17 (cndX (.tmp 104) Imr42_18 Imr42_19)) (seqO Imr42_20 Out.ret))))))))))
def Ime42 : FuncId → Option Fun := fun f => match Nat.beq f 157 with | true => some ImF119 | false => match Nat.beq f 16 with | true => some ImF120 | false => match Nat.beq f 159 with | true => some ImF122 | false => match Nat.beq f 158 with | true => some ImF121 | false => match Nat.beq f 161 with | true => some ImF124 | false => match Nat.beq f 160 with | true => some ImF123 | false => match Nat.beq f 98 with | true => some ImF57 | false => match Nat.beq f 88 with | true => some ImF125 | false => none
def Imp42 : Plans := fun id => match Nat.beq id 16 with | true => some ([0, 1, 3, 0, 8, 24, 56, 0, 0, 256, 768, 2040, 4095], [(3, .pure), (4, .pure), (5, .pure), (6, .read 0), (7, .pure), (8, .pure), (9, .read 0), (10, .pure), (11, .heavy), (0, .pure), (1, .pure), (2, .pure), (12, .heavy)]) | false => match Nat.beq id 20 with | true => some ([0, 1, 3, 7, 0, 16, 48, 15, 255], [(0, .pure), (1, .pure), (2, .pure), (3, .heavy), (4, .pure), (5, .read 1), (6, .pure), (7, .pure), (8, .pure)]) | false => none
def ImF42 : Fun := funX Tryz.prog TryG Imk42 Ime42 Imp42 lf Tryz.f70
theorem ImD42 : denX Tryz.prog TryG Tryz.f70.ntmps Imk42 Ime42 Imp42 lf (codeOf Tryz.f70) = Imd42 := by kernel_rfl
theorem ImF42_eq (x0 x1 x2 x3 : V) (h : Hp) : ImF42 [x0, x1, x2, x3] h = outR Tryz.prog [.tmp 8, .tmp 9] (Imd42 (T.set (some x3) (Pos.of 3) (T.set (some x2) (Pos.of 2) (T.set (some x1) (Pos.of 1) (T.set (some x0) (Pos.of 0) T.nil)))) h) := funX_eq (by kernel_rfl) ImD42 (by kernel_rfl) h
theorem Imc42 : CallOk Tryz.prog TryG 70 ImF42 := funX_ok Trymix (callsOk_cons Imc119 (callsOk_cons Imc120 (callsOk_cons Imc122 (callsOk_cons Imc121 (callsOk_cons Imc124 (callsOk_cons Imc123 (callsOk_cons Imc57 (callsOk_cons Imc125 callsOk_0)))))))) Tryz.func70 (by kernel_rfl)
def Imk7 : Nat → Bool := fun t => memN t [0, 1]
def Ime7 : FuncId → Option Fun := fun f => none
def Imp7 : Plans := fun id => none
def ImF7 : Fun := funX Tryz.prog TryG Imk7 Ime7 Imp7 lf Tryz.f28
theorem Imc7 : CallOk Tryz.prog TryG 28 ImF7 := funX_ok Trymix callsOk_0 Tryz.func28 (by kernel_rfl)
end Go.Proofs.Im
