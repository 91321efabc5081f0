/- Part of the value machine, or of a walk by it: lemmas that the claim's last text uses. No conditions. -/
import Derived.Test.YtnlbcbjgejpanaaGreatDoorChecked
import Derived.KernelRfl
import Derived.Test.YtnlbcbjgejpanaaGreatDoorSeVmO
set_option linter.unusedVariables false
set_option linter.unusedSimpArgs false
set_option linter.unnecessarySimpa false
noncomputable section
namespace Go.Proofs.Im
open Go Go.Proofs Go.Vm
set_option linter.unusedVariables false
set_option maxRecDepth 100000
set_option maxHeartbeats 4000000
theorem Trymix : Tryz.prog.follows .mixedOrders = true := Tryz.checked.mixed
def TryG : Nat := 7
abbrev tB : TypeId := 5
abbrev tS : TypeId := 9
abbrev tW : TypeId := 212
abbrev tG : TypeId := 155
abbrev tP : TypeId := 519
abbrev tR : TypeId := 150
def TryF52 : Fun := idxF
theorem Tryc52 : CallOk Tryz.prog TryG 193 TryF52 := idxF_ok Tryz.func193 (by kernel_rfl) (by kernel_rfl) (by kernel_rfl) (by kernel_rfl)
def Tryk51 : Nat → Bool := fun t => memN t [0, 1, 4]
def Tryr51_0 (fr : F) (h : Hp) : Out :=
  Out.nor (T.set (some (.int .i64 0)) (Pos.of 4) fr) h
def Tryr51_1 (fr : F) (h : Hp) : Out :=
  gtO (T.get fr (Pos.of 0)) fun v0 => gtO (T.get fr (Pos.of 1)) fun v1 => bndO (TryF52 [v0, v1] h) fun v7 h2 =>
  Out.nor (T.set (some v7) (Pos.of 4) fr) h2
def Tryd51 : F → Hp → Out := (seqO Tryr51_0 (seqO Tryr51_1 Out.ret))
def Trye51 : FuncId → Option Fun := fun f => match Nat.beq f 193 with | true => some TryF52 | false => none
def Tryp51 : Plans := fun id => none
def TryF51 : Fun := funX Tryz.prog TryG Tryk51 Trye51 Tryp51 lf Tryz.f94
theorem TryD51 : denX Tryz.prog TryG Tryz.f94.ntmps Tryk51 Trye51 Tryp51 lf (codeOf Tryz.f94) = Tryd51 := by kernel_rfl
theorem TryF51_eq (x0 x1 : V) (h : Hp) : TryF51 [x0, x1] h = outR Tryz.prog [.tmp 4] (Tryd51 (T.set (some x1) (Pos.of 1) (T.set (some x0) (Pos.of 0) T.nil)) h) := funX_eq (by kernel_rfl) TryD51 (by kernel_rfl) h
theorem Tryc51 : CallOk Tryz.prog TryG 94 TryF51 := funX_ok Trymix (callsOk_cons Tryc52 callsOk_0) Tryz.func94 (by kernel_rfl)
def Tryk50 : Nat → Bool := fun t => memN t [0, 1, 4]
def Tryr50_0 (fr : F) (h : Hp) : Out :=
  Out.nor (T.set (some (.int .i64 0)) (Pos.of 4) fr) h
def Tryr50_1 (fr : F) (h : Hp) : Out :=
  gtO (T.get fr (Pos.of 0)) fun v0 => gtO (T.get fr (Pos.of 1)) fun v1 => bndO (TryF51 [v0, v1] h) fun v7 h2 =>
  Out.nor (T.set (some v7) (Pos.of 4) fr) h2
def Tryd50 : F → Hp → Out := (seqO Tryr50_0 (seqO Tryr50_1 Out.ret))
def Trye50 : FuncId → Option Fun := fun f => match Nat.beq f 94 with | true => some TryF51 | false => none
def Tryp50 : Plans := fun id => none
def TryF50 : Fun := funX Tryz.prog TryG Tryk50 Trye50 Tryp50 lf Tryz.f46
theorem TryD50 : denX Tryz.prog TryG Tryz.f46.ntmps Tryk50 Trye50 Tryp50 lf (codeOf Tryz.f46) = Tryd50 := by kernel_rfl
theorem TryF50_eq (x0 x1 : V) (h : Hp) : TryF50 [x0, x1] h = outR Tryz.prog [.tmp 4] (Tryd50 (T.set (some x1) (Pos.of 1) (T.set (some x0) (Pos.of 0) T.nil)) h) := funX_eq (by kernel_rfl) TryD50 (by kernel_rfl) h
theorem Tryc50 : CallOk Tryz.prog TryG 46 TryF50 := funX_ok Trymix (callsOk_cons Tryc51 callsOk_0) Tryz.func46 (by kernel_rfl)
def Tryk43 : Nat → Bool := fun t => memN t [0, 1, 4, 5, 10, 17]
def Tryr43_0 (fr : F) (h : Hp) : Out :=
  Out.nor (T.set (some (.int .i64 0)) (Pos.of 4) fr) h
def Tryr43_1 (fr : F) (h : Hp) : Out :=
  gtO (T.get fr (Pos.of 0)) fun v0 => bndO (oLenK 1 v0 h) fun v7 h1 =>
  bndO (oBin .sub .none v7 (.int .i64 1) h1) fun v8 h2 =>
  Out.nor (T.set (some v8) (Pos.of 5) fr) h2
def Tryr43_2 (fr : F) (h : Hp) : Out :=
  gtO (T.get fr (Pos.of 5)) fun v5 => bndO (oBin .geq .none v5 (.int .i64 0) h) fun v10 h1 =>
  Out.nor (T.set (some v10) (Pos.of 10) fr) h1
def Tryr43_4 (fr : F) (h : Hp) : Out :=
  gtO (T.get fr (Pos.of 0)) fun v0 => gtO (T.get fr (Pos.of 5)) fun v5 => bndO (oIdxStr v0 v5 h) fun v15 h2 =>
  gtO (T.get fr (Pos.of 1)) fun v1 => bndO (oBin .eql .none v15 v1 h2) fun v17 h4 =>
  Out.nor (T.set (some v17) (Pos.of 17) fr) h4
def Tryr43_5 (fr : F) (h : Hp) : Out :=
  gtO (T.get fr (Pos.of 5)) fun v5 => Out.nor (T.set (some v5) (Pos.of 4) fr) h
def Tryr43_3 (fr : F) (h : Hp) : Out :=
  gtO (T.get fr (Pos.of 5)) fun v5 => bndO (oBin .sub .none v5 (.int .i64 1) h) fun v12 h1 =>
  Out.nor (T.set (some v12) (Pos.of 5) fr) h1
def Tryr43_6 (fr : F) (h : Hp) : Out :=
  Out.nor (T.set (some (.int .i64 (-1))) (Pos.of 4) fr) h
def Tryb43_2 : F → Hp → Out := (seqO (seqO Tryr43_2 (cndX (.tmp 10) Out.nor (Out.ex 0))) (seqO (blkO 1 (seqO Tryr43_4 (cndX (.tmp 17) (seqO Tryr43_5 Out.ret) Out.nor))) Tryr43_3))
def Tryd43 : F → Hp → Out := (seqO Tryr43_0 (seqO (seqO Tryr43_1 (blkO 0 (loopO Tryb43_2 lf))) (seqO Tryr43_6 Out.ret)))
def Trye43 : FuncId → Option Fun := fun f => none
def Tryp43 : Plans := fun id => none
def TryF43 : Fun := funX Tryz.prog TryG Tryk43 Trye43 Tryp43 lf Tryz.f367
theorem TryD43 : denX Tryz.prog TryG Tryz.f367.ntmps Tryk43 Trye43 Tryp43 lf (codeOf Tryz.f367) = Tryd43 := by kernel_rfl
theorem TryF43_eq (x0 x1 : V) (h : Hp) : TryF43 [x0, x1] h = outR Tryz.prog [.tmp 4] (Tryd43 (T.set (some x1) (Pos.of 1) (T.set (some x0) (Pos.of 0) T.nil)) h) := funX_eq (by kernel_rfl) TryD43 (by kernel_rfl) h
theorem Tryc43 : CallOk Tryz.prog TryG 367 TryF43 := funX_ok Trymix callsOk_0 Tryz.func367 (by kernel_rfl)
def Tryk34 : Nat → Bool := fun t => memN t [0, 1, 4]
def Tryr34_0 (fr : F) (h : Hp) : Out :=
  Out.nor (T.set (some (.int .i64 0)) (Pos.of 4) fr) h
def Tryr34_1 (fr : F) (h : Hp) : Out :=
  gtO (T.get fr (Pos.of 0)) fun v0 => gtO (T.get fr (Pos.of 1)) fun v1 => bndO (TryF43 [v0, v1] h) fun v7 h2 =>
  Out.nor (T.set (some v7) (Pos.of 4) fr) h2
def Tryd34 : F → Hp → Out := (seqO Tryr34_0 (seqO Tryr34_1 Out.ret))
def Trye34 : FuncId → Option Fun := fun f => match Nat.beq f 367 with | true => some TryF43 | false => none
def Tryp34 : Plans := fun id => none
def TryF34 : Fun := funX Tryz.prog TryG Tryk34 Trye34 Tryp34 lf Tryz.f200
theorem TryD34 : denX Tryz.prog TryG Tryz.f200.ntmps Tryk34 Trye34 Tryp34 lf (codeOf Tryz.f200) = Tryd34 := by kernel_rfl
theorem TryF34_eq (x0 x1 : V) (h : Hp) : TryF34 [x0, x1] h = outR Tryz.prog [.tmp 4] (Tryd34 (T.set (some x1) (Pos.of 1) (T.set (some x0) (Pos.of 0) T.nil)) h) := funX_eq (by kernel_rfl) TryD34 (by kernel_rfl) h
theorem Tryc34 : CallOk Tryz.prog TryG 200 TryF34 := funX_ok Trymix (callsOk_cons Tryc43 callsOk_0) Tryz.func200 (by kernel_rfl)
def Tryk41 : Nat → Bool := fun t => memN t [0, 1, 4]
def Tryr41_0 (fr : F) (h : Hp) : Out :=
  Out.nor (T.set (some (.bool false)) (Pos.of 4) fr) h
def Tryr41_1 (fr : F) (h : Hp) : Out :=
  gtO (T.get fr (Pos.of 0)) fun v0 => bndO (oLenK 1 v0 h) fun v6 h1 =>
  gtO (T.get fr (Pos.of 1)) fun v1 => bndO (oLenK 1 v1 h1) fun v8 h3 =>
  bndO (oBin .geq .none v6 v8 h3) fun v9 h4 =>
  ifB v9 (bndO (oLenK 1 v0 h4) fun v13 h8 =>
  bndO (oLenK 1 v1 h8) fun v15 h10 =>
  bndO (oBin .sub .none v13 v15 h10) fun v16 h11 =>
  bndO (oSliceStr v0 (some v16) none h11) fun v17 h12 =>
  bndO (oBin .eql .none v17 v1 h12) fun v19 h14 =>
  Out.nor (T.set (some v19) (Pos.of 4) fr) h14) (Out.nor (T.set (some (.bool false)) (Pos.of 4) fr) h4)
def Tryd41 : F → Hp → Out := (seqO Tryr41_0 (seqO Tryr41_1 Out.ret))
def Trye41 : FuncId → Option Fun := fun f => none
def Tryp41 : Plans := fun id => none
def TryF41 : Fun := funX Tryz.prog TryG Tryk41 Trye41 Tryp41 lf Tryz.f541
theorem TryD41 : denX Tryz.prog TryG Tryz.f541.ntmps Tryk41 Trye41 Tryp41 lf (codeOf Tryz.f541) = Tryd41 := by kernel_rfl
theorem TryF41_eq (x0 x1 : V) (h : Hp) : TryF41 [x0, x1] h = outR Tryz.prog [.tmp 4] (Tryd41 (T.set (some x1) (Pos.of 1) (T.set (some x0) (Pos.of 0) T.nil)) h) := funX_eq (by kernel_rfl) TryD41 (by kernel_rfl) h
theorem Tryc41 : CallOk Tryz.prog TryG 541 TryF41 := funX_ok Trymix callsOk_0 Tryz.func541 (by kernel_rfl)
def Tryk42 : Nat → Bool := fun t => memN t [0, 1, 4, 5, 9]
def Tryr42_0 (fr : F) (h : Hp) : Out :=
  Out.nor (T.set (some (.bool false)) (Pos.of 5) (T.set (some (.str [])) (Pos.of 4) fr)) h
def Tryr42_1 (fr : F) (h : Hp) : Out :=
  gtO (T.get fr (Pos.of 0)) fun v0 => gtO (T.get fr (Pos.of 1)) fun v1 => bndO (TryF41 [v0, v1] h) fun v8 h2 =>
  bndO (oUn .not v8 h2) fun v9 h3 =>
  Out.nor (T.set (some v9) (Pos.of 9) fr) h3
def Tryr42_2 (fr : F) (h : Hp) : Out :=
  gtO (T.get fr (Pos.of 0)) fun v0 => Out.nor (T.set (some (.bool false)) (Pos.of 5) (T.set (some v0) (Pos.of 4) fr)) h
def Tryr42_3 (fr : F) (h : Hp) : Out :=
  gtO (T.get fr (Pos.of 0)) fun v0 => bndO (oLenK 1 v0 h) fun v13 h2 =>
  gtO (T.get fr (Pos.of 1)) fun v1 => bndO (oLenK 1 v1 h2) fun v15 h4 =>
  bndO (oBin .sub .none v13 v15 h4) fun v16 h5 =>
  bndO (oSliceStr v0 none (some v16) h5) fun v17 h6 =>
  Out.nor (T.set (some (.bool true)) (Pos.of 5) (T.set (some v17) (Pos.of 4) fr)) h6
def Tryd42 : F → Hp → Out := (seqO Tryr42_0 (seqO (seqO Tryr42_1 (cndX (.tmp 9) (seqO Tryr42_2 Out.ret) Out.nor)) (seqO Tryr42_3 Out.ret)))
def Trye42 : FuncId → Option Fun := fun f => match Nat.beq f 541 with | true => some TryF41 | false => none
def Tryp42 : Plans := fun id => none
def TryF42 : Fun := funX Tryz.prog TryG Tryk42 Trye42 Tryp42 lf Tryz.f445
theorem TryD42 : denX Tryz.prog TryG Tryz.f445.ntmps Tryk42 Trye42 Tryp42 lf (codeOf Tryz.f445) = Tryd42 := by kernel_rfl
theorem TryF42_eq (x0 x1 : V) (h : Hp) : TryF42 [x0, x1] h = outR Tryz.prog [.tmp 4, .tmp 5] (Tryd42 (T.set (some x1) (Pos.of 1) (T.set (some x0) (Pos.of 0) T.nil)) h) := funX_eq (by kernel_rfl) TryD42 (by kernel_rfl) h
theorem Tryc42 : CallOk Tryz.prog TryG 445 TryF42 := funX_ok Trymix (callsOk_cons Tryc41 callsOk_0) Tryz.func445 (by kernel_rfl)
def Tryk33 : Nat → Bool := fun t => memN t [0, 1, 4, 5]
def Tryr33_0 (fr : F) (h : Hp) : Out :=
  Out.nor (T.set (some (.bool false)) (Pos.of 5) (T.set (some (.str [])) (Pos.of 4) fr)) h
def Tryr33_1 (fr : F) (h : Hp) : Out :=
  gtO (T.get fr (Pos.of 0)) fun v0 => gtO (T.get fr (Pos.of 1)) fun v1 => bndO (TryF42 [v0, v1] h) fun v8 h2 =>
  bndO (oExtract 0 v8 h2) fun v9 h3 =>
  bndO (oExtract 1 v8 h3) fun v10 h4 =>
  Out.nor (T.set (some v10) (Pos.of 5) (T.set (some v9) (Pos.of 4) fr)) h4
def Tryd33 : F → Hp → Out := (seqO Tryr33_0 (seqO Tryr33_1 Out.ret))
def Trye33 : FuncId → Option Fun := fun f => match Nat.beq f 445 with | true => some TryF42 | false => none
def Tryp33 : Plans := fun id => none
def TryF33 : Fun := funX Tryz.prog TryG Tryk33 Trye33 Tryp33 lf Tryz.f284
theorem TryD33 : denX Tryz.prog TryG Tryz.f284.ntmps Tryk33 Trye33 Tryp33 lf (codeOf Tryz.f284) = Tryd33 := by kernel_rfl
theorem TryF33_eq (x0 x1 : V) (h : Hp) : TryF33 [x0, x1] h = outR Tryz.prog [.tmp 4, .tmp 5] (Tryd33 (T.set (some x1) (Pos.of 1) (T.set (some x0) (Pos.of 0) T.nil)) h) := funX_eq (by kernel_rfl) TryD33 (by kernel_rfl) h
theorem Tryc33 : CallOk Tryz.prog TryG 284 TryF33 := funX_ok Trymix (callsOk_cons Tryc42 callsOk_0) Tryz.func284 (by kernel_rfl)
def Tryk32 : Nat → Bool := fun t => memN t [0, 1, 4, 7]
def Tryr32_0 (fr : F) (h : Hp) : Out :=
  Out.nor (T.set (some (.str [])) (Pos.of 4) fr) h
def Tryr32_1 (fr : F) (h : Hp) : Out :=
  gtO (T.get fr (Pos.of 0)) fun v0 => gtO (T.get fr (Pos.of 1)) fun v1 => bndO (TryF41 [v0, v1] h) fun v7 h2 =>
  Out.nor (T.set (some v7) (Pos.of 7) fr) h2
def Tryr32_2 (fr : F) (h : Hp) : Out :=
  gtO (T.get fr (Pos.of 0)) fun v0 => bndO (oLenK 1 v0 h) fun v10 h2 =>
  gtO (T.get fr (Pos.of 1)) fun v1 => bndO (oLenK 1 v1 h2) fun v12 h4 =>
  bndO (oBin .sub .none v10 v12 h4) fun v13 h5 =>
  bndO (oSliceStr v0 none (some v13) h5) fun v14 h6 =>
  Out.nor (T.set (some v14) (Pos.of 4) fr) h6
def Tryr32_3 (fr : F) (h : Hp) : Out :=
  gtO (T.get fr (Pos.of 0)) fun v0 => Out.nor (T.set (some v0) (Pos.of 4) fr) h
def Tryd32 : F → Hp → Out := (seqO Tryr32_0 (seqO (seqO Tryr32_1 (cndX (.tmp 7) (seqO Tryr32_2 Out.ret) Out.nor)) (seqO Tryr32_3 Out.ret)))
def Trye32 : FuncId → Option Fun := fun f => match Nat.beq f 541 with | true => some TryF41 | false => none
def Tryp32 : Plans := fun id => none
def TryF32 : Fun := funX Tryz.prog TryG Tryk32 Trye32 Tryp32 lf Tryz.f450
theorem TryD32 : denX Tryz.prog TryG Tryz.f450.ntmps Tryk32 Trye32 Tryp32 lf (codeOf Tryz.f450) = Tryd32 := by kernel_rfl
theorem TryF32_eq (x0 x1 : V) (h : Hp) : TryF32 [x0, x1] h = outR Tryz.prog [.tmp 4] (Tryd32 (T.set (some x1) (Pos.of 1) (T.set (some x0) (Pos.of 0) T.nil)) h) := funX_eq (by kernel_rfl) TryD32 (by kernel_rfl) h
theorem Tryc32 : CallOk Tryz.prog TryG 450 TryF32 := funX_ok Trymix (callsOk_cons Tryc41 callsOk_0) Tryz.func450 (by kernel_rfl)
def Tryk26 : Nat → Bool := fun t => memN t [0, 1, 4]
def Tryr26_0 (fr : F) (h : Hp) : Out :=
  Out.nor (T.set (some (.str [])) (Pos.of 4) fr) h
def Tryr26_1 (fr : F) (h : Hp) : Out :=
  gtO (T.get fr (Pos.of 0)) fun v0 => gtO (T.get fr (Pos.of 1)) fun v1 => bndO (TryF32 [v0, v1] h) fun v7 h2 =>
  Out.nor (T.set (some v7) (Pos.of 4) fr) h2
def Tryd26 : F → Hp → Out := (seqO Tryr26_0 (seqO Tryr26_1 Out.ret))
def Trye26 : FuncId → Option Fun := fun f => match Nat.beq f 450 with | true => some TryF32 | false => none
def Tryp26 : Plans := fun id => none
def TryF26 : Fun := funX Tryz.prog TryG Tryk26 Trye26 Tryp26 lf Tryz.f291
theorem TryD26 : denX Tryz.prog TryG Tryz.f291.ntmps Tryk26 Trye26 Tryp26 lf (codeOf Tryz.f291) = Tryd26 := by kernel_rfl
theorem TryF26_eq (x0 x1 : V) (h : Hp) : TryF26 [x0, x1] h = outR Tryz.prog [.tmp 4] (Tryd26 (T.set (some x1) (Pos.of 1) (T.set (some x0) (Pos.of 0) T.nil)) h) := funX_eq (by kernel_rfl) TryD26 (by kernel_rfl) h
theorem Tryc26 : CallOk Tryz.prog TryG 291 TryF26 := funX_ok Trymix (callsOk_cons Tryc32 callsOk_0) Tryz.func291 (by kernel_rfl)
def Tryk35 : Nat → Bool := fun t => memN t [0, 2, 3, 4, 5, 22, 24, 25, 26, 37, 48]
def Tryr35_0 (fr : F) (h : Hp) : Out :=
  Out.nor (T.set (some (.bool false)) (Pos.of 3) (T.set (some (.int .i64 0)) (Pos.of 2) fr)) h
def Tryr35_1 (fr : F) (h : Hp) : Out :=
  gtO (T.get fr (Pos.of 0)) fun v0 => bndO (oBin .eql .none v0 (.str []) h) fun v7 h1 =>
  ifB v7 (Out.nor (T.set (some (.bool true)) (Pos.of 22) fr) h1) (bndO (oLenK 1 v0 h1) fun v10 h4 =>
  bndO (oBin .gtr .none v10 (.int .i64 10) h4) fun v11 h5 =>
  ifB v11 (Out.nor (T.set (some (.bool true)) (Pos.of 22) fr) h5) (bndO (oIdxStr v0 (.int .i64 0) h5) fun v15 h9 =>
  bndO (oBin .eql .none v15 (.int .u8 48) h9) fun v16 h10 =>
  ifB v16 (bndO (oLenK 1 v0 h10) fun v19 h13 =>
  bndO (oBin .gtr .none v19 (.int .i64 1) h13) fun v20 h14 =>
  Out.nor (T.set (some v20) (Pos.of 22) fr) h14) (Out.nor (T.set (some (.bool false)) (Pos.of 22) fr) h10)))
def Tryr35_2 (fr : F) (h : Hp) : Out :=
  Out.nor (T.set (some (.bool false)) (Pos.of 3) (T.set (some (.int .i64 0)) (Pos.of 2) fr)) h
def Tryr35_3 (fr : F) (h : Hp) : Out :=
  Out.nor (T.set (some (.int .i64 0)) (Pos.of 4) fr) h
def Tryr35_4 (fr : F) (h : Hp) : Out :=
  gtO (T.get fr (Pos.of 0)) fun v0 => bndO (oLenK 1 v0 h) fun v24 h1 =>
  Out.nor (T.set (some (.int .i64 0)) (Pos.of 25) (T.set (some v24) (Pos.of 24) fr)) h1
def Tryr35_5 (fr : F) (h : Hp) : Out :=
  gtO (T.get fr (Pos.of 25)) fun v25 => gtO (T.get fr (Pos.of 24)) fun v24 => bndO (oBin .lss .none v25 v24 h) fun v26 h0 =>
  Out.nor (T.set (some v26) (Pos.of 26) fr) h0
def Tryr35_6 (fr : F) (h : Hp) : Out :=
  gtO (T.get fr (Pos.of 25)) fun v25 => Out.nor (T.set (some v25) (Pos.of 5) fr) h
def Tryr35_7 (fr : F) (h : Hp) : Out :=
  gtO (T.get fr (Pos.of 0)) fun v0 => gtO (T.get fr (Pos.of 5)) fun v5 => bndO (oIdxStr v0 v5 h) fun v30 h2 =>
  bndO (oBin .lss .none v30 (.int .u8 48) h2) fun v31 h3 =>
  ifB v31 (Out.nor (T.set (some (.bool true)) (Pos.of 37) fr) h3) (bndO (oIdxStr v0 v5 h3) fun v35 h7 =>
  bndO (oBin .gtr .none v35 (.int .u8 57) h7) fun v36 h8 =>
  Out.nor (T.set (some v36) (Pos.of 37) fr) h8)
def Tryr35_8 (fr : F) (h : Hp) : Out :=
  Out.nor (T.set (some (.bool false)) (Pos.of 3) (T.set (some (.int .i64 0)) (Pos.of 2) fr)) h
def Tryr35_9 (fr : F) (h : Hp) : Out :=
  gtO (T.get fr (Pos.of 4)) fun v4 => bndO (oBin .mul .none v4 (.int .i64 10) h) fun v39 h1 =>
  gtO (T.get fr (Pos.of 0)) fun v0 => gtO (T.get fr (Pos.of 5)) fun v5 => bndO (oIdxStr v0 v5 h1) fun v42 h4 =>
  bndO (oBin .sub .none v42 (.int .u8 48) h4) fun v43 h5 =>
  bndO (oConvInt .i64 v43 h5) fun v44 h6 =>
  bndO (oBin .add .none v39 v44 h6) fun v45 h7 =>
  Out.nor (T.set (some v45) (Pos.of 4) fr) h7
def Tryr35_10 (fr : F) (h : Hp) : Out :=
  gtO (T.get fr (Pos.of 25)) fun v25 => bndO (oBin .add .none v25 (.int .i64 1) h) fun v46 h0 =>
  Out.nor (T.set (some v46) (Pos.of 25) fr) h0
def Tryr35_11 (fr : F) (h : Hp) : Out :=
  gtO (T.get fr (Pos.of 4)) fun v4 => bndO (oBin .gtr .none v4 (.int .i64 4294967295) h) fun v48 h1 =>
  Out.nor (T.set (some v48) (Pos.of 48) fr) h1
def Tryr35_12 (fr : F) (h : Hp) : Out :=
  Out.nor (T.set (some (.bool false)) (Pos.of 3) (T.set (some (.int .i64 0)) (Pos.of 2) fr)) h
def Tryr35_13 (fr : F) (h : Hp) : Out :=
  gtO (T.get fr (Pos.of 4)) fun v4 => Out.nor (T.set (some (.bool true)) (Pos.of 3) (T.set (some v4) (Pos.of 2) fr)) h
def Tryb35_5 : F → Hp → Out := (seqO Tryr35_5 (seqO (cndX (.tmp 26) Out.nor (Out.ex 0)) (seqO (blkO 1 (seqO Tryr35_6 (seqO (seqO Tryr35_7 (cndX (.tmp 37) (seqO Tryr35_8 Out.ret) Out.nor)) Tryr35_9))) Tryr35_10)))
def Tryd35 : F → Hp → Out := (seqO Tryr35_0 (seqO (seqO Tryr35_1 (cndX (.tmp 22) (seqO Tryr35_2 Out.ret) Out.nor)) (seqO Tryr35_3 (seqO (seqO Tryr35_4 (blkO 0 (loopO Tryb35_5 lf))) (seqO (seqO Tryr35_11 (cndX (.tmp 48) (seqO Tryr35_12 Out.ret) Out.nor)) (seqO Tryr35_13 Out.ret))))))
def Trye35 : FuncId → Option Fun := fun f => none
def Tryp35 : Plans := fun id => none
def TryF35 : Fun := funX Tryz.prog TryG Tryk35 Trye35 Tryp35 lf Tryz.f261
theorem TryD35 : denX Tryz.prog TryG Tryz.f261.ntmps Tryk35 Trye35 Tryp35 lf (codeOf Tryz.f261) = Tryd35 := by kernel_rfl
theorem TryF35_eq (x0 : V) (h : Hp) : TryF35 [x0] h = outR Tryz.prog [.tmp 2, .tmp 3] (Tryd35 (T.set (some x0) (Pos.of 0) T.nil) h) := funX_eq (by kernel_rfl) TryD35 (by kernel_rfl) h
theorem Tryc35 : CallOk Tryz.prog TryG 261 TryF35 := funX_ok Trymix callsOk_0 Tryz.func261 (by kernel_rfl)
def Tryk27 : Nat → Bool := fun t => memN t [0, 2, 3, 4, 5, 6, 7, 8, 9, 22, 38]
def Tryr27_0 (fr : F) (h : Hp) : Out :=
  Out.nor (T.set (some (.bool false)) (Pos.of 5) (T.set (some (.bool false)) (Pos.of 4) (T.set (some (.int .i64 0)) (Pos.of 3) (T.set (some (.str [])) (Pos.of 2) fr)))) h
def Tryr27_1 (fr : F) (h : Hp) : Out :=
  gtO (T.get fr (Pos.of 0)) fun v0 => bndO (TryF33 [v0, (.str [125])] h) fun v12 h1 =>
  bndO (oExtract 0 v12 h1) fun v13 h3 =>
  bndO (oExtract 1 v12 h3) fun v14 h4 =>
  Out.nor (T.set (some v14) (Pos.of 7) (T.set (some v13) (Pos.of 6) fr)) h4
def Tryr27_2 (fr : F) (h : Hp) : Out :=
  gtO (T.get fr (Pos.of 6)) fun v6 => bndO (TryF34 [v6, (.int .u8 123)] h) fun v16 h1 =>
  Out.nor (T.set (some v16) (Pos.of 8) fr) h1
def Tryr27_3 (fr : F) (h : Hp) : Out :=
  gtO (T.get fr (Pos.of 7)) fun v7 => bndO (oUn .not v7 h) fun v18 h1 =>
  ifB v18 (Out.nor (T.set (some (.bool true)) (Pos.of 22) fr) h1) (gtO (T.get fr (Pos.of 8)) fun v8 => bndO (oBin .lss .none v8 (.int .i64 0) h1) fun v21 h4 =>
  Out.nor (T.set (some v21) (Pos.of 22) fr) h4)
def Tryr27_4 (fr : F) (h : Hp) : Out :=
  gtO (T.get fr (Pos.of 0)) fun v0 => Out.nor (T.set (some (.bool false)) (Pos.of 5) (T.set (some (.bool false)) (Pos.of 4) (T.set (some (.int .i64 0)) (Pos.of 3) (T.set (some v0) (Pos.of 2) fr)))) h
def Tryr27_5 (fr : F) (h : Hp) : Out :=
  gtO (T.get fr (Pos.of 6)) fun v6 => gtO (T.get fr (Pos.of 8)) fun v8 => bndO (oBin .add .none v8 (.int .i64 1) h) fun v27 h2 =>
  bndO (oSliceStr v6 (some v27) none h2) fun v28 h3 =>
  bndO (TryF33 [v28, (.str [43])] h3) fun v29 h4 =>
  bndO (oExtract 0 v29 h4) fun v30 h6 =>
  bndO (oExtract 1 v29 h6) fun v31 h7 =>
  Out.nor (T.set (some v31) (Pos.of 4) (T.set (some v30) (Pos.of 9) fr)) h7
def Tryr27_6 (fr : F) (h : Hp) : Out :=
  gtO (T.get fr (Pos.of 9)) fun v9 => bndO (TryF35 [v9] h) fun v34 h1 =>
  bndO (oExtract 0 v34 h1) fun v35 h3 =>
  bndO (oExtract 1 v34 h3) fun v36 h4 =>
  Out.nor (T.set (some v36) (Pos.of 5) (T.set (some v35) (Pos.of 3) fr)) h4
def Tryr27_7 (fr : F) (h : Hp) : Out :=
  gtO (T.get fr (Pos.of 5)) fun v5 => bndO (oUn .not v5 h) fun v38 h1 =>
  Out.nor (T.set (some v38) (Pos.of 38) fr) h1
def Tryr27_8 (fr : F) (h : Hp) : Out :=
  gtO (T.get fr (Pos.of 0)) fun v0 => Out.nor (T.set (some (.bool false)) (Pos.of 5) (T.set (some (.bool false)) (Pos.of 4) (T.set (some (.int .i64 0)) (Pos.of 3) (T.set (some v0) (Pos.of 2) fr)))) h
def Tryr27_9 (fr : F) (h : Hp) : Out :=
  gtO (T.get fr (Pos.of 6)) fun v6 => gtO (T.get fr (Pos.of 8)) fun v8 => bndO (oSliceStr v6 none (some v8) h) fun v42 h2 =>
  gtO (T.get fr (Pos.of 3)) fun v3 => gtO (T.get fr (Pos.of 4)) fun v4 => Out.nor (T.set (some (.bool true)) (Pos.of 5) (T.set (some v4) (Pos.of 4) (T.set (some v3) (Pos.of 3) (T.set (some v42) (Pos.of 2) fr)))) h2
def Tryd27 : F → Hp → Out := (seqO Tryr27_0 (seqO Tryr27_1 (seqO Tryr27_2 (seqO (seqO Tryr27_3 (cndX (.tmp 22) (seqO Tryr27_4 Out.ret) Out.nor)) (seqO Tryr27_5 (seqO Tryr27_6 (seqO (seqO Tryr27_7 (cndX (.tmp 38) (seqO Tryr27_8 Out.ret) Out.nor)) (seqO Tryr27_9 Out.ret))))))))
def Trye27 : FuncId → Option Fun := fun f => match Nat.beq f 284 with | true => some TryF33 | false => match Nat.beq f 200 with | true => some TryF34 | false => match Nat.beq f 261 with | true => some TryF35 | false => none
def Tryp27 : Plans := fun id => none
def TryF27 : Fun := funX Tryz.prog TryG Tryk27 Trye27 Tryp27 lf Tryz.f292
theorem TryD27 : denX Tryz.prog TryG Tryz.f292.ntmps Tryk27 Trye27 Tryp27 lf (codeOf Tryz.f292) = Tryd27 := by kernel_rfl
theorem TryF27_eq (x0 : V) (h : Hp) : TryF27 [x0] h = outR Tryz.prog [.tmp 2, .tmp 3, .tmp 4, .tmp 5] (Tryd27 (T.set (some x0) (Pos.of 0) T.nil) h) := funX_eq (by kernel_rfl) TryD27 (by kernel_rfl) h
theorem Tryc27 : CallOk Tryz.prog TryG 292 TryF27 := funX_ok Trymix (callsOk_cons Tryc33 (callsOk_cons Tryc34 (callsOk_cons Tryc35 callsOk_0))) Tryz.func292 (by kernel_rfl)
def Tryk37 : Nat → Bool := fun t => memN t [0, 2]
def Tryr37_0 (fr : F) (h : Hp) : Out :=
  Out.nor (T.set (some (.str [])) (Pos.of 2) fr) h
def Tryr37_1 (fr : F) (h : Hp) : Out :=
  gtO (T.get fr (Pos.of 0)) fun w0_0 => bndO (oNilCheck w0_0 (bumpH 0 h)) fun v4 _ =>
  bndO (oFieldAddr 0 v4 (bumpH 0 h)) fun v5 _ =>
  bndO (oLoad1 v5 (bumpH 0 h)) fun v6 _ =>
  gtO (T.get fr (Pos.of 0)) fun w4_0 => bndO (oNilCheck w4_0 (bumpH 0 h)) fun v8 _ =>
  bndO (oFieldAddr 2 v8 (bumpH 0 h)) fun v9 _ =>
  bndO (oLoad1 v9 (bumpH 0 h)) fun v10 _ =>
  bndO (oIdxS 1 v6 v10 (bumpH 0 h)) fun v11 _ =>
  bndO (oLoad1 v11 (bumpH 0 h)) fun v12 _ =>
  gtO (T.get fr (Pos.of 0)) fun w10_0 => bndO (oNilCheck w10_0 (bumpH 0 h)) fun v14 _ =>
  bndO (oFieldAddr 3 v14 (bumpH 0 h)) fun v15 _ =>
  bndO (oLoad1 v15 (bumpH 0 h)) fun v16 _ =>
  bndO (oSliceStr v12 (some v16) none (bumpH 0 h)) fun v17 _ =>
  Out.nor (T.set (some v17) (Pos.of 2) fr) (bumpH 0 h)
def Tryd37 : F → Hp → Out := (seqO Tryr37_0 (seqO Tryr37_1 Out.ret))
def Trye37 : FuncId → Option Fun := fun f => none
def Tryp37 : Plans := fun id => match Nat.beq id 1 with | true => some ([0, 1, 3, 7, 0, 16, 48, 112, 255, 511, 0, 1024, 3072, 7168, 16383, 32767], [(0, .pure), (1, .pure), (2, .pure), (3, .read 0), (4, .pure), (5, .pure), (6, .pure), (7, .read 0), (8, .pure), (9, .read 0), (10, .pure), (11, .pure), (12, .pure), (13, .read 0), (14, .pure), (15, .pure)]) | false => none
def TryF37 : Fun := funX Tryz.prog TryG Tryk37 Trye37 Tryp37 lf Tryz.f452
theorem TryD37 : denX Tryz.prog TryG Tryz.f452.ntmps Tryk37 Trye37 Tryp37 lf (codeOf Tryz.f452) = Tryd37 := by kernel_rfl
theorem TryF37_eq (x0 : V) (h : Hp) : TryF37 [x0] h = outR Tryz.prog [.tmp 2] (Tryd37 (T.set (some x0) (Pos.of 0) T.nil) h) := funX_eq (by kernel_rfl) TryD37 (by kernel_rfl) h
theorem Tryc37 : CallOk Tryz.prog TryG 452 TryF37 := funX_ok Trymix callsOk_0 Tryz.func452 (by kernel_rfl)
def Tryk48 : Nat → Bool := fun t => memN t [0, 2]
def Tryr48_0 (fr : F) (h : Hp) : Out :=
  Out.nor (T.set (some (.bool false)) (Pos.of 2) fr) h
def Tryr48_1 (fr : F) (h : Hp) : Out :=
  gtO (T.get fr (Pos.of 0)) fun w0_0 => bndO (TryF37 [w0_0] (bumpH 0 h)) fun v4 h1 =>
  bndO (oBin .eql .none v4 (.str []) h1) fun v5 _ =>
  ifB v5 (gtO (T.get fr (Pos.of 0)) fun w4_0 => bndO (oNilCheck w4_0 h1) fun v8 _ =>
  bndO (oFieldAddr 2 v8 h1) fun v9 _ =>
  bndO (oLoad1 v9 h1) fun v10 _ =>
  gtO (T.get fr (Pos.of 0)) fun w8_0 => bndO (oNilCheck w8_0 h1) fun v12 _ =>
  bndO (oFieldAddr 1 v12 h1) fun v13 _ =>
  bndO (oLoad1 v13 h1) fun v14 _ =>
  bndO (oLenK 2 v14 h1) fun v15 _ =>
  bndO (oBin .lss .none v10 v15 h1) fun v16 _ =>
  Out.nor (T.set (some v16) (Pos.of 2) fr) h1) (Out.nor (T.set (some (.bool false)) (Pos.of 2) fr) h1)
def Tryd48 : F → Hp → Out := (seqO Tryr48_0 (seqO Tryr48_1 Out.ret))
def Trye48 : FuncId → Option Fun := fun f => match Nat.beq f 452 with | true => some TryF37 | false => none
def Tryp48 : Plans := fun id => match Nat.beq id 1 with | true => some ([0, 1, 3, 7, 15, 31, 63, 127, 15, 271, 783, 1807, 3855, 8191, 16383, 32767], [(0, .pure), (1, .heavy), (2, .pure), (3, .pure), (4, .pure), (5, .pure), (6, .pure), (7, .read 0), (8, .pure), (9, .pure), (10, .pure), (11, .read 0), (12, .pure), (13, .pure), (14, .pure), (15, .pure)]) | false => none
def TryF48 : Fun := funX Tryz.prog TryG Tryk48 Trye48 Tryp48 lf Tryz.f658
theorem TryD48 : denX Tryz.prog TryG Tryz.f658.ntmps Tryk48 Trye48 Tryp48 lf (codeOf Tryz.f658) = Tryd48 := by kernel_rfl
theorem TryF48_eq (x0 : V) (h : Hp) : TryF48 [x0] h = outR Tryz.prog [.tmp 2] (Tryd48 (T.set (some x0) (Pos.of 0) T.nil) h) := funX_eq (by kernel_rfl) TryD48 (by kernel_rfl) h
theorem Tryc48 : CallOk Tryz.prog TryG 658 TryF48 := funX_ok Trymix (callsOk_cons Tryc37 callsOk_0) Tryz.func658 (by kernel_rfl)
def Tryk45 : Nat → Bool := fun t => memN t [0, 1, 4, 5, 15]
def Tryr45_0 (fr : F) (h : Hp) : Out :=
  Out.nor (T.set (some (.bool false)) (Pos.of 4) fr) h
def Tryr45_1 (fr : F) (h : Hp) : Out :=
  gtO (T.get fr (Pos.of 0)) fun v0 => bndO (TryF37 [v0] h) fun v7 h1 =>
  Out.nor (T.set (some v7) (Pos.of 5) fr) h1
def Tryr45_2 (fr : F) (h : Hp) : Out :=
  gtO (T.get fr (Pos.of 5)) fun v5 => bndO (oBin .eql .none v5 (.str []) h) fun v9 h1 =>
  ifB v9 (Out.nor (T.set (some (.bool true)) (Pos.of 15) fr) h1) (bndO (oIdxStr v5 (.int .i64 0) h1) fun v12 h4 =>
  gtO (T.get fr (Pos.of 1)) fun v1 => bndO (oBin .neq .none v12 v1 h4) fun v14 h6 =>
  Out.nor (T.set (some v14) (Pos.of 15) fr) h6)
def Tryr45_3 (fr : F) (h : Hp) : Out :=
  Out.nor (T.set (some (.bool false)) (Pos.of 4) fr) h
def Tryr45_4 (fr : F) (h : Hp) : Out :=
  gtO (T.get fr (Pos.of 0)) fun v0 => bndO (oNilCheck v0 h) fun v17 h1 =>
  bndO (oFieldAddr 3 v17 h1) fun v18 h2 =>
  bndO (oLoad1 v18 h2) fun v19 h3 =>
  bndO (oBin .add .none v19 (.int .i64 1) h3) fun v20 h4 =>
  bndO (oNilCheck v0 h4) fun v21 h5 =>
  bndO (oFieldAddr 3 v21 h5) fun v22 h6 =>
  bndO (oStore 1 v22 v20 h6) fun _u7 h7 =>
  Out.nor fr h7
def Tryr45_5 (fr : F) (h : Hp) : Out :=
  Out.nor (T.set (some (.bool true)) (Pos.of 4) fr) h
def Tryd45 : F → Hp → Out := (seqO Tryr45_0 (seqO Tryr45_1 (seqO (seqO Tryr45_2 (cndX (.tmp 15) (seqO Tryr45_3 Out.ret) Out.nor)) (seqO Tryr45_4 (seqO Tryr45_5 Out.ret)))))
def Trye45 : FuncId → Option Fun := fun f => match Nat.beq f 452 with | true => some TryF37 | false => none
def Tryp45 : Plans := fun id => none
def TryF45 : Fun := funX Tryz.prog TryG Tryk45 Trye45 Tryp45 lf Tryz.f554
theorem TryD45 : denX Tryz.prog TryG Tryz.f554.ntmps Tryk45 Trye45 Tryp45 lf (codeOf Tryz.f554) = Tryd45 := by kernel_rfl
theorem TryF45_eq (x0 x1 : V) (h : Hp) : TryF45 [x0, x1] h = outR Tryz.prog [.tmp 4] (Tryd45 (T.set (some x1) (Pos.of 1) (T.set (some x0) (Pos.of 0) T.nil)) h) := funX_eq (by kernel_rfl) TryD45 (by kernel_rfl) h
theorem Tryc45 : CallOk Tryz.prog TryG 554 TryF45 := funX_ok Trymix (callsOk_cons Tryc37 callsOk_0) Tryz.func554 (by kernel_rfl)
def Tryk49 : Nat → Bool := fun t => memN t [0, 2, 3, 4, 5, 6, 10, 26, 31, 34, 49]
def Tryr49_0 (fr : F) (h : Hp) : Out :=
  Out.nor (T.set (some (.bool false)) (Pos.of 3) (T.set (some (.str [])) (Pos.of 2) fr)) h
def Tryr49_1 (fr : F) (h : Hp) : Out :=
  Out.nor (T.set (some .nils) (Pos.of 4) fr) h
def Tryr49_2 (fr : F) (h : Hp) : Out :=
  gtO (T.get fr (Pos.of 0)) fun v0 => bndO (TryF37 [v0] h) fun v8 h1 =>
  Out.nor (T.set (some v8) (Pos.of 5) fr) h1
def Tryr49_3 (fr : F) (h : Hp) : Out :=
  gtO (T.get fr (Pos.of 5)) fun v5 => bndO (oBin .neq .none v5 (.str []) h) fun v10 h1 =>
  Out.nor (T.set (some v10) (Pos.of 10) fr) h1
def Tryr49_5 (fr : F) (h : Hp) : Out :=
  gtO (T.get fr (Pos.of 5)) fun v5 => bndO (oIdxStr v5 (.int .i64 0) h) fun v14 h1 =>
  Out.nor (T.set (some v14) (Pos.of 6) fr) h1
def Tryr49_6 (fr : F) (h : Hp) : Out :=
  gtO (T.get fr (Pos.of 0)) fun v0 => bndO (oNilCheck v0 h) fun v16 h1 =>
  bndO (oFieldAddr 3 v16 h1) fun v17 h2 =>
  bndO (oLoad1 v17 h2) fun v18 h3 =>
  bndO (oBin .add .none v18 (.int .i64 1) h3) fun v19 h4 =>
  bndO (oNilCheck v0 h4) fun v20 h5 =>
  bndO (oFieldAddr 3 v20 h5) fun v21 h6 =>
  bndO (oStore 1 v21 v19 h6) fun _u7 h7 =>
  Out.nor fr h7
def Tryr49_8 (fr : F) (h : Hp) : Out :=
  gtO (T.get fr (Pos.of 6)) fun v6 => bndO (oBin .eql .none v6 (.int .u8 34) h) fun v28 h1 =>
  Out.nor (T.set (some v28) (Pos.of 26) fr) h1
def Tryr49_9 (fr : F) (h : Hp) : Out :=
  gtO (T.get fr (Pos.of 4)) fun v4 => bndO (oBytesStr v4 h) fun v30 h1 =>
  Out.nor (T.set (some (.bool true)) (Pos.of 3) (T.set (some v30) (Pos.of 2) fr)) h1
def Tryr49_10 (fr : F) (h : Hp) : Out :=
  gtO (T.get fr (Pos.of 6)) fun v6 => bndO (oBin .eql .none v6 (.int .u8 13) h) fun v33 h1 =>
  Out.nor (T.set (some v33) (Pos.of 31) fr) h1
def Tryr49_11 (fr : F) (h : Hp) : Out :=
  Out.nor (T.set (some (.bool false)) (Pos.of 3) (T.set (some (.str [])) (Pos.of 2) fr)) h
def Tryr49_12 (fr : F) (h : Hp) : Out :=
  gtO (T.get fr (Pos.of 6)) fun v6 => bndO (oBin .eql .none v6 (.int .u8 92) h) fun v36 h1 =>
  Out.nor (T.set (some v36) (Pos.of 34) fr) h1
def Tryr49_13 (fr : F) (h : Hp) : Out :=
  gtO (T.get fr (Pos.of 5)) fun v5 => bndO (oLenK 1 v5 h) fun v38 h1 =>
  bndO (oBin .lss .none v38 (.int .i64 2) h1) fun v39 h2 =>
  ifB v39 (Out.nor (T.set (some (.bool true)) (Pos.of 49) fr) h2) (bndO (oIdxStr v5 (.int .i64 1) h2) fun v42 h5 =>
  bndO (oBin .neq .none v42 (.int .u8 34) h5) fun v43 h6 =>
  ifB v43 (bndO (oIdxStr v5 (.int .i64 1) h6) fun v46 h9 =>
  bndO (oBin .neq .none v46 (.int .u8 92) h9) fun v47 h10 =>
  Out.nor (T.set (some v47) (Pos.of 49) fr) h10) (Out.nor (T.set (some (.bool false)) (Pos.of 49) fr) h6))
def Tryr49_14 (fr : F) (h : Hp) : Out :=
  Out.nor (T.set (some (.bool false)) (Pos.of 3) (T.set (some (.str [])) (Pos.of 2) fr)) h
def Tryr49_15 (fr : F) (h : Hp) : Out :=
  gtO (T.get fr (Pos.of 4)) fun v4 => gtO (T.get fr (Pos.of 5)) fun v5 => bndO (oIdxStr v5 (.int .i64 1) h) fun v52 h2 =>
  bndO (oBuildSlice 5 [(.int .u8 0)] 1 [(0, 1, v52)] h2) fun v53 h3 =>
  bndO (oAppend 5 1 1 v4 v53 h3) fun v54 h4 =>
  Out.nor (T.set (some v54) (Pos.of 4) fr) h4
def Tryr49_16 (fr : F) (h : Hp) : Out :=
  gtO (T.get fr (Pos.of 0)) fun v0 => bndO (oNilCheck v0 h) fun v56 h1 =>
  bndO (oFieldAddr 3 v56 h1) fun v57 h2 =>
  bndO (oLoad1 v57 h2) fun v58 h3 =>
  bndO (oBin .add .none v58 (.int .i64 1) h3) fun v59 h4 =>
  bndO (oNilCheck v0 h4) fun v60 h5 =>
  bndO (oFieldAddr 3 v60 h5) fun v61 h6 =>
  bndO (oStore 1 v61 v59 h6) fun _u7 h7 =>
  Out.nor fr h7
def Tryr49_7 (fr : F) (h : Hp) : Out :=
  gtO (T.get fr (Pos.of 4)) fun v4 => gtO (T.get fr (Pos.of 6)) fun v6 => bndO (oBuildSlice 5 [(.int .u8 0)] 1 [(0, 1, v6)] h) fun v24 h2 =>
  bndO (oAppend 5 1 1 v4 v24 h2) fun v25 h3 =>
  Out.nor (T.set (some v25) (Pos.of 4) fr) h3
def Tryr49_4 (fr : F) (h : Hp) : Out :=
  gtO (T.get fr (Pos.of 0)) fun v0 => bndO (TryF37 [v0] h) fun v12 h1 =>
  Out.nor (T.set (some v12) (Pos.of 5) fr) h1
def Tryr49_17 (fr : F) (h : Hp) : Out :=
  Out.nor (T.set (some (.bool false)) (Pos.of 3) (T.set (some (.str [])) (Pos.of 2) fr)) h
def Tryb49_3 : F → Hp → Out := (seqO (seqO Tryr49_3 (cndX (.tmp 10) Out.nor (Out.ex 0))) (seqO (blkO 1 (seqO Tryr49_5 (seqO Tryr49_6 (blkO 2 (seqO Tryr49_8 (cndX (.tmp 26) (seqO Tryr49_9 Out.ret) (seqO Tryr49_10 (cndX (.tmp 31) (seqO Tryr49_11 Out.ret) (seqO Tryr49_12 (cndX (.tmp 34) (seqO (seqO Tryr49_13 (cndX (.tmp 49) (seqO Tryr49_14 Out.ret) Out.nor)) (seqO Tryr49_15 Tryr49_16)) Tryr49_7)))))))))) Tryr49_4))
def Tryd49 : F → Hp → Out := (seqO Tryr49_0 (seqO Tryr49_1 (seqO (seqO Tryr49_2 (blkO 0 (loopO Tryb49_3 lf))) (seqO Tryr49_17 Out.ret))))
def Trye49 : FuncId → Option Fun := fun f => match Nat.beq f 452 with | true => some TryF37 | false => none
def Tryp49 : Plans := fun id => none
def TryF49 : Fun := funX Tryz.prog TryG Tryk49 Trye49 Tryp49 lf Tryz.f659
theorem TryD49 : denX Tryz.prog TryG Tryz.f659.ntmps Tryk49 Trye49 Tryp49 lf (codeOf Tryz.f659) = Tryd49 := by kernel_rfl
theorem TryF49_eq (x0 : V) (h : Hp) : TryF49 [x0] h = outR Tryz.prog [.tmp 2, .tmp 3] (Tryd49 (T.set (some x0) (Pos.of 0) T.nil) h) := funX_eq (by kernel_rfl) TryD49 (by kernel_rfl) h
theorem Tryc49 : CallOk Tryz.prog TryG 659 TryF49 := funX_ok Trymix (callsOk_cons Tryc37 callsOk_0) Tryz.func659 (by kernel_rfl)
def Tryk44 : Nat → Bool := fun t => memN t [0, 1, 4, 5, 6, 7, 8, 9, 10, 11, 12, 13, 14, 39, 50, 54, 58, 99]
def Tryr44_0 (V36 : Fun) (fr : F) (h : Hp) : Out :=
  bndO (oNew 212 [(.int .i64 0), (.str []), .nils] h) fun v4 h0 =>
  Out.nor (T.set (some (.bool false)) (Pos.of 5) (T.set (some v4) (Pos.of 4) fr)) h0
def Tryr44_1 (V36 : Fun) (fr : F) (h : Hp) : Out :=
  gtO (T.get fr (Pos.of 0)) fun v0 => bndO (TryF48 [v0] h) fun v16 h1 =>
  Out.nor (T.set (some v16) (Pos.of 14) fr) h1
def Tryr44_2 (V36 : Fun) (fr : F) (h : Hp) : Out :=
  gtO (T.get fr (Pos.of 0)) fun w0_0 => bndO (oNilCheck w0_0 (bumpH 1 h)) fun v18 _ =>
  bndO (oFieldAddr 1 v18 (bumpH 1 h)) fun v19 _ =>
  bndO (oLoad1 v19 (bumpH 1 h)) fun v20 _ =>
  gtO (T.get fr (Pos.of 0)) fun w4_0 => bndO (oNilCheck w4_0 (bumpH 1 h)) fun v22 _ =>
  bndO (oFieldAddr 2 v22 (bumpH 1 h)) fun v23 _ =>
  bndO (oLoad1 v23 (bumpH 1 h)) fun v24 _ =>
  bndO (oIdxS 1 v20 v24 (bumpH 1 h)) fun v25 _ =>
  bndO (oLoad1 v25 (bumpH 1 h)) fun v26 _ =>
  bndO (oBuild [(.int .i64 0), (.str []), .nils] [(0, 1, (.int .i64 2)), (1, 1, v26)] (bumpH 1 h)) fun v27 _ =>
  alcO (aNew 212 [(.int .i64 0), (.str []), .nils]) fun ob11 mk11 =>
  bndO (oStore 3 (mk11 (Hp.next h)) v27 (Hp.put (bumpH 1 h) (Hp.next h) (some ob11))) fun _u12 h12 =>
  Out.nor (T.set (some (mk11 (Hp.next h))) (Pos.of 6) fr) h12
def Tryr44_3 (V36 : Fun) (fr : F) (h : Hp) : Out :=
  gtO (T.get fr (Pos.of 0)) fun v0 => bndO (oNilCheck v0 h) fun v29 h1 =>
  bndO (oFieldAddr 2 v29 h1) fun v30 h2 =>
  bndO (oLoad1 v30 h2) fun v31 h3 =>
  bndO (oBin .add .none v31 (.int .i64 1) h3) fun v32 h4 =>
  bndO (oNilCheck v0 h4) fun v33 h5 =>
  bndO (oFieldAddr 2 v33 h5) fun v34 h6 =>
  bndO (oStore 1 v34 v32 h6) fun _u7 h7 =>
  Out.nor fr h7
def Tryr44_4 (V36 : Fun) (fr : F) (h : Hp) : Out :=
  gtO (T.get fr (Pos.of 0)) fun v0 => bndO (oNilCheck v0 h) fun v36 h1 =>
  bndO (oFieldAddr 3 v36 h1) fun v37 h2 =>
  bndO (oStore 1 v37 (.int .i64 0) h2) fun _u3 h3 =>
  Out.nor fr h3
def Tryr44_5 (V36 : Fun) (fr : F) (h : Hp) : Out :=
  gtO (T.get fr (Pos.of 6)) fun v6 => bndO (oLoadN 3 v6 h) fun v38 h0 =>
  gtO (T.get fr (Pos.of 4)) fun v4 => bndO (oStore 3 v4 v38 h0) fun _u1 h1 =>
  Out.nor (T.set (some (.bool true)) (Pos.of 5) fr) h1
def Tryr44_6 (V36 : Fun) (fr : F) (h : Hp) : Out :=
  gtO (T.get fr (Pos.of 0)) fun v0 => bndO (TryF45 [v0, (.int .u8 34)] h) fun v41 h1 =>
  Out.nor (T.set (some v41) (Pos.of 39) fr) h1
def Tryr44_7 (V36 : Fun) (fr : F) (h : Hp) : Out :=
  gtO (T.get fr (Pos.of 0)) fun v0 => bndO (TryF49 [v0] h) fun v44 h1 =>
  bndO (oExtract 0 v44 h1) fun v45 h3 =>
  bndO (oExtract 1 v44 h3) fun v46 h4 =>
  Out.nor (T.set (some v46) (Pos.of 8) (T.set (some v45) (Pos.of 7) fr)) h4
def Tryr44_8 (V36 : Fun) (fr : F) (h : Hp) : Out :=
  gtO (T.get fr (Pos.of 7)) fun v7 => bndO (oBuild [(.int .i64 0), (.str []), .nils] [(0, 1, (.int .i64 2)), (1, 1, v7)] h) fun v48 h1 =>
  gtO (T.get fr (Pos.of 8)) fun v8 => gtO (T.get fr (Pos.of 4)) fun v4 => bndO (oStore 3 v4 v48 h1) fun _u3 h3 =>
  Out.nor (T.set (some v8) (Pos.of 5) fr) h3
def Tryr44_9 (V36 : Fun) (fr : F) (h : Hp) : Out :=
  gtO (T.get fr (Pos.of 0)) fun v0 => bndO (TryF45 [v0, (.int .u8 40)] h) fun v52 h1 =>
  Out.nor (T.set (some v52) (Pos.of 50) fr) h1
def Tryr44_10 (V36 : Fun) (fr : F) (h : Hp) : Out :=
  gtO (T.get fr (Pos.of 1)) fun v1 => bndO (oBin .geq .none v1 (.int .i64 8) h) fun v54 h1 =>
  Out.nor (T.set (some v54) (Pos.of 54) fr) h1
def Tryr44_11 (V36 : Fun) (fr : F) (h : Hp) : Out :=
  bndO (oBuild [(.int .i64 0), (.str []), .nils] [] h) fun v55 h0 =>
  gtO (T.get fr (Pos.of 4)) fun v4 => bndO (oStore 3 v4 v55 h0) fun _u1 h1 =>
  Out.nor (T.set (some (.bool false)) (Pos.of 5) fr) h1
def Tryr44_12 (V36 : Fun) (fr : F) (h : Hp) : Out :=
  bndO (oBuild [(.int .i64 0), (.str []), .nils] [(0, 1, (.int .i64 3))] h) fun v56 h0 =>
  bndO (oNew 212 [(.int .i64 0), (.str []), .nils] h0) fun v9 h1 =>
  bndO (oStore 3 v9 v56 h1) fun _u2 h2 =>
  Out.nor (T.set (some v9) (Pos.of 9) fr) h2
def Tryr44_13 (V36 : Fun) (fr : F) (h : Hp) : Out :=
  gtO (T.get fr (Pos.of 0)) fun v0 => bndO (TryF45 [v0, (.int .u8 41)] h) fun v58 h1 =>
  Out.nor (T.set (some v58) (Pos.of 58) fr) h1
def Tryr44_14 (V36 : Fun) (fr : F) (h : Hp) : Out :=
  gtO (T.get fr (Pos.of 9)) fun v9 => bndO (oLoadN 3 v9 h) fun v59 h0 =>
  gtO (T.get fr (Pos.of 4)) fun v4 => bndO (oStore 3 v4 v59 h0) fun _u1 h1 =>
  Out.nor (T.set (some (.bool true)) (Pos.of 5) fr) h1
def Tryr44_15 (V36 : Fun) (fr : F) (h : Hp) : Out :=
  gtO (T.get fr (Pos.of 0)) fun v0 => gtO (T.get fr (Pos.of 1)) fun v1 => bndO (oBin .add .none v1 (.int .i64 1) h) fun v63 h2 =>
  bndO (V36 [v0, v63] h2) fun v64 h3 =>
  bndO (oExtract 0 v64 h3) fun v65 h5 =>
  bndO (oExtract 1 v64 h5) fun v66 h6 =>
  Out.nor (T.set (some v66) (Pos.of 11) (T.set (some v65) (Pos.of 10) fr)) h6
def Tryr44_16 (V36 : Fun) (fr : F) (h : Hp) : Out :=
  gtO (T.get fr (Pos.of 10)) fun v10 => gtO (T.get fr (Pos.of 9)) fun v9 => bndO (oFieldAddr 2 v9 h) fun v68 h1 =>
  bndO (oStore 1 v68 v10 h1) fun _u2 h2 =>
  Out.nor fr h2
def Tryr44_17 (V36 : Fun) (fr : F) (h : Hp) : Out :=
  gtO (T.get fr (Pos.of 11)) fun w1_11 => ifB w1_11 (gtO (T.get fr (Pos.of 0)) fun w3_0 => bndO (TryF45 [w3_0, (.int .u8 41)] (bumpH 0 h)) fun v73 h4 =>
  gtO (T.get fr (Pos.of 9)) fun w0_9 => bndO (oLoadN 3 w0_9 h4) fun v69 _ => chk (fun h => oLoadN 3 w0_9 h) v69 (
  gtO (T.get fr (Pos.of 4)) fun w6_4 => bndO (oStore 3 w6_4 v69 h4) fun _u6 h6 =>
  Out.nor (T.set (some v73) (Pos.of 5) fr) h6) 1 [(bumpH 0 h)]) (gtO (T.get fr (Pos.of 9)) fun w0_9 => bndO (oLoadN 3 w0_9 (bumpH 0 h)) fun v69 _ => chk (fun h => oLoadN 3 w0_9 h) v69 (
  gtO (T.get fr (Pos.of 4)) fun w6_4 => bndO (oStore 3 w6_4 v69 (bumpH 0 h)) fun _u6 h6 =>
  Out.nor (T.set (some (.bool false)) (Pos.of 5) fr) h6) 1 [(bumpH 0 h)])
def Tryr44_18 (V36 : Fun) (fr : F) (h : Hp) : Out :=
  gtO (T.get fr (Pos.of 0)) fun v0 => bndO (TryF37 [v0] h) fun v76 h1 =>
  Out.nor (T.set (some v76) (Pos.of 12) fr) h1
def Tryr44_19 (V36 : Fun) (fr : F) (h : Hp) : Out :=
  Out.nor (T.set (some (.int .i64 0)) (Pos.of 13) fr) h
def Tryr44_20 (V36 : Fun) (fr : F) (h : Hp) : Out :=
  gtO (T.get fr (Pos.of 13)) fun v13 => gtO (T.get fr (Pos.of 12)) fun v12 => bndO (oLenK 1 v12 h) fun v79 h2 =>
  bndO (oBin .lss .none v13 v79 h2) fun v80 h3 =>
  ifB v80 (bndO (oIdxStr v12 v13 h3) fun v84 h7 =>
  bndO (oBin .geq .none v84 (.int .u8 33) h7) fun v85 h8 =>
  ifB v85 (bndO (oIdxStr v12 v13 h8) fun v90 h13 =>
  bndO (oBin .leq .none v90 (.int .u8 126) h13) fun v91 h14 =>
  ifB v91 (bndO (oIdxStr v12 v13 h14) fun v96 h19 =>
  bndO (TryF50 [(.str [40, 41, 34, 123]), v96] h19) fun v97 h20 =>
  bndO (oBin .lss .none v97 (.int .i64 0) h20) fun v98 h21 =>
  Out.nor (T.set (some v98) (Pos.of 99) fr) h21) (Out.nor (T.set (some (.bool false)) (Pos.of 99) fr) h14)) (Out.nor (T.set (some (.bool false)) (Pos.of 99) fr) h8)) (Out.nor (T.set (some (.bool false)) (Pos.of 99) fr) h3)
def Tryr44_21 (V36 : Fun) (fr : F) (h : Hp) : Out :=
  gtO (T.get fr (Pos.of 13)) fun v13 => bndO (oBin .add .none v13 (.int .i64 1) h) fun v101 h1 =>
  Out.nor (T.set (some v101) (Pos.of 13) fr) h1
def Tryr44_22 (V36 : Fun) (fr : F) (h : Hp) : Out :=
  gtO (T.get fr (Pos.of 0)) fun v0 => bndO (oNilCheck v0 h) fun v103 h1 =>
  bndO (oFieldAddr 3 v103 h1) fun v104 h2 =>
  bndO (oLoad1 v104 h2) fun v105 h3 =>
  gtO (T.get fr (Pos.of 13)) fun v13 => bndO (oBin .add .none v105 v13 h3) fun v107 h5 =>
  bndO (oNilCheck v0 h5) fun v108 h6 =>
  bndO (oFieldAddr 3 v108 h6) fun v109 h7 =>
  bndO (oStore 1 v109 v107 h7) fun _u8 h8 =>
  Out.nor fr h8
def Tryr44_23 (V36 : Fun) (fr : F) (h : Hp) : Out :=
  gtO (T.get fr (Pos.of 12)) fun v12 => gtO (T.get fr (Pos.of 13)) fun v13 => bndO (oSliceStr v12 none (some v13) h) fun v112 h2 =>
  bndO (oBuild [(.int .i64 0), (.str []), .nils] [(0, 1, (.int .i64 1)), (1, 1, v112)] h2) fun v113 h3 =>
  bndO (oBin .gtr .none v13 (.int .i64 0) h3) fun v115 h5 =>
  gtO (T.get fr (Pos.of 4)) fun v4 => bndO (oStore 3 v4 v113 h5) fun _u6 h6 =>
  Out.nor (T.set (some v115) (Pos.of 5) fr) h6
def Tryb44_20 (V36 : Fun) : F → Hp → Out := (seqO (seqO (Tryr44_20 V36) (cndX (.tmp 99) Out.nor (Out.ex 1))) (blkO 2 (Tryr44_21 V36)))
def Tryd44 (V36 : Fun) : F → Hp → Out := (seqO (Tryr44_0 V36) (seqO (blkO 0 (seqO (Tryr44_1 V36) (cndX (.tmp 14) (seqO (Tryr44_2 V36) (seqO (Tryr44_3 V36) (seqO (Tryr44_4 V36) (seqO (Tryr44_5 V36) Out.ret)))) (seqO (Tryr44_6 V36) (cndX (.tmp 39) (seqO (Tryr44_7 V36) (seqO (Tryr44_8 V36) Out.ret)) (seqO (Tryr44_9 V36) (cndX (.tmp 50) (seqO (seqO (Tryr44_10 V36) (cndX (.tmp 54) (seqO (Tryr44_11 V36) Out.ret) Out.nor)) (seqO (Tryr44_12 V36) (seqO (seqO (Tryr44_13 V36) (cndX (.tmp 58) (seqO (Tryr44_14 V36) Out.ret) Out.nor)) (seqO (Tryr44_15 V36) (seqO (Tryr44_16 V36) (seqO (Tryr44_17 V36) Out.ret)))))) Out.nor))))))) (seqO (Tryr44_18 V36) (seqO (Tryr44_19 V36) (seqO (blkO 1 (loopO (Tryb44_20 V36) lf)) (seqO (Tryr44_22 V36) (seqO (Tryr44_23 V36) Out.ret)))))))
def Trye44 (V36 : Fun) : FuncId → Option Fun := fun f => match Nat.beq f 658 with | true => some TryF48 | false => match Nat.beq f 554 with | true => some TryF45 | false => match Nat.beq f 659 with | true => some TryF49 | false => match Nat.beq f 451 with | true => some V36 | false => match Nat.beq f 452 with | true => some TryF37 | false => match Nat.beq f 46 with | true => some TryF50 | false => none
def Tryp44 : Plans := fun id => match Nat.beq id 2 with | true => some ([0, 1, 3, 7, 0, 16, 48, 112, 255, 511, 1023, 0, 4095], [(0, .pure), (1, .pure), (2, .pure), (3, .read 0), (4, .pure), (5, .pure), (6, .pure), (7, .read 0), (8, .pure), (9, .read 0), (10, .pure), (11, .alloc), (12, .heavy)]) | false => match Nat.beq id 17 with | true => some ([0, 0, 2, 6, 14, 30, 31, 127], [(1, .pure), (2, .pure), (3, .pure), (4, .heavy), (0, .read 1), (6, .heavy), (5, .pure), (7, .pure)]) | false => none
def TryF44 (V36 : Fun) : Fun := funX Tryz.prog TryG Tryk44 (Trye44 V36) Tryp44 lf Tryz.f553
theorem TryD44 (V36 : Fun) : denX Tryz.prog TryG Tryz.f553.ntmps Tryk44 (Trye44 V36) Tryp44 lf (codeOf Tryz.f553) = (Tryd44 V36) := by kernel_rfl
theorem TryF44_eq (V36 : Fun) (x0 x1 : V) (h : Hp) : (TryF44 V36) [x0, x1] h = outR Tryz.prog [.cell 4 212, .tmp 5] ((Tryd44 V36) (T.set (some x1) (Pos.of 1) (T.set (some x0) (Pos.of 0) T.nil)) h) := funX_eq (by kernel_rfl) (TryD44 V36) (by kernel_rfl) h
theorem Tryc44 (V36 : Fun) (H36 : CallOk Tryz.prog TryG 451 V36) : CallOk Tryz.prog TryG 553 (TryF44 V36) := funX_ok Trymix (callsOk_cons Tryc48 (callsOk_cons Tryc45 (callsOk_cons Tryc49 (callsOk_cons H36 (callsOk_cons Tryc37 (callsOk_cons Tryc50 callsOk_0)))))) Tryz.func553 (by kernel_rfl)
def Tryk36 : Nat → Bool := fun t => memN t [0, 1, 4, 5, 6, 7, 8, 16, 23]
def Tryr36_0 (V44 : Fun) (fr : F) (h : Hp) : Out :=
  Out.nor (T.set (some (.bool false)) (Pos.of 5) (T.set (some .nils) (Pos.of 4) fr)) h
def Tryr36_1 (V44 : Fun) (fr : F) (h : Hp) : Out :=
  Out.nor (T.set (some .nils) (Pos.of 6) fr) h
def Tryr36_2 (V44 : Fun) (fr : F) (h : Hp) : Out :=
  gtO (T.get fr (Pos.of 0)) fun v0 => gtO (T.get fr (Pos.of 1)) fun v1 => bndO (V44 [v0, v1] h) fun v12 h2 =>
  bndO (oExtract 0 v12 h2) fun v13 h4 =>
  bndO (oExtract 1 v12 h4) fun v14 h5 =>
  bndO (oNew 212 [(.int .i64 0), (.str []), .nils] h5) fun v7 h6 =>
  bndO (oStore 3 v7 v13 h6) fun _u7 h7 =>
  Out.nor (T.set (some v14) (Pos.of 8) (T.set (some v7) (Pos.of 7) fr)) h7
def Tryr36_3 (V44 : Fun) (fr : F) (h : Hp) : Out :=
  gtO (T.get fr (Pos.of 8)) fun v8 => bndO (oUn .not v8 h) fun v16 h1 =>
  Out.nor (T.set (some v16) (Pos.of 16) fr) h1
def Tryr36_4 (V44 : Fun) (fr : F) (h : Hp) : Out :=
  Out.nor (T.set (some (.bool false)) (Pos.of 5) (T.set (some .nils) (Pos.of 4) fr)) h
def Tryr36_5 (V44 : Fun) (fr : F) (h : Hp) : Out :=
  gtO (T.get fr (Pos.of 6)) fun v6 => gtO (T.get fr (Pos.of 7)) fun v7 => bndO (oLoadN 3 v7 h) fun v18 h1 =>
  bndO (oBuildSlice 212 [(.int .i64 0), (.str []), .nils] 1 [(0, 3, v18)] h1) fun v19 h2 =>
  bndO (oAppend 212 3 48 v6 v19 h2) fun v20 h3 =>
  Out.nor (T.set (some v20) (Pos.of 6) fr) h3
def Tryr36_6 (V44 : Fun) (fr : F) (h : Hp) : Out :=
  gtO (T.get fr (Pos.of 0)) fun v0 => bndO (TryF45 [v0, (.int .u8 32)] h) fun v22 h1 =>
  bndO (oUn .not v22 h1) fun v23 h2 =>
  Out.nor (T.set (some v23) (Pos.of 23) fr) h2
def Tryr36_7 (V44 : Fun) (fr : F) (h : Hp) : Out :=
  gtO (T.get fr (Pos.of 6)) fun v6 => Out.nor (T.set (some (.bool true)) (Pos.of 5) (T.set (some v6) (Pos.of 4) fr)) h
def Tryb36_2 (V44 : Fun) : F → Hp → Out := (blkO 1 (seqO (Tryr36_2 V44) (seqO (seqO (Tryr36_3 V44) (cndX (.tmp 16) (seqO (Tryr36_4 V44) Out.ret) Out.nor)) (seqO (Tryr36_5 V44) (seqO (Tryr36_6 V44) (cndX (.tmp 23) (seqO (Tryr36_7 V44) Out.ret) Out.nor))))))
def Tryd36 (V44 : Fun) : F → Hp → Out := (seqO (Tryr36_0 V44) (seqO (Tryr36_1 V44) (blkO 0 (loopO (Tryb36_2 V44) lf))))
def Trye36 (V44 : Fun) : FuncId → Option Fun := fun f => match Nat.beq f 553 with | true => some V44 | false => match Nat.beq f 554 with | true => some TryF45 | false => none
def Tryp36 : Plans := fun id => none
def TryF36 (V44 : Fun) : Fun := funX Tryz.prog TryG Tryk36 (Trye36 V44) Tryp36 lf Tryz.f451
theorem TryD36 (V44 : Fun) : denX Tryz.prog TryG Tryz.f451.ntmps Tryk36 (Trye36 V44) Tryp36 lf (codeOf Tryz.f451) = (Tryd36 V44) := by kernel_rfl
theorem TryF36_eq (V44 : Fun) (x0 x1 : V) (h : Hp) : (TryF36 V44) [x0, x1] h = outR Tryz.prog [.tmp 4, .tmp 5] ((Tryd36 V44) (T.set (some x1) (Pos.of 1) (T.set (some x0) (Pos.of 0) T.nil)) h) := funX_eq (by kernel_rfl) (TryD36 V44) (by kernel_rfl) h
theorem Tryc36 (V44 : Fun) (H44 : CallOk Tryz.prog TryG 553 V44) : CallOk Tryz.prog TryG 451 (TryF36 V44) := funX_ok Trymix (callsOk_cons H44 (callsOk_cons Tryc45 callsOk_0)) Tryz.func451 (by kernel_rfl)
def TryW : Nat → Fun
  | 0 => fun _ _ => .bad
  | n + 1 => TryF44 (TryF36 (TryW n))
theorem TryW_ok : ∀ n, CallOk Tryz.prog TryG 553 (TryW n)
  | 0 => fun _ _ _ _ _ _ _ e => by cases e
  | n + 1 => Tryc44 _ (Tryc36 _ (TryW_ok n))
def TryF36r : Fun := TryF36 (TryW 20)
theorem Tryc36r : CallOk Tryz.prog TryG 451 TryF36r := Tryc36 _ (TryW_ok 20)
def Tryk28 : Nat → Bool := fun t => memN t [0, 1, 4, 5, 6, 7, 8, 9, 10, 12, 13, 14, 45]
def Tryr28_0 (fr : F) (h : Hp) : Out :=
  Out.nor (T.set (some (.bool false)) (Pos.of 5) (T.set (some .nils) (Pos.of 4) fr)) h
def Tryr28_1 (fr : F) (h : Hp) : Out :=
  gtO (T.get fr (Pos.of 1)) fun v1 => bndO (oLenK 2 v1 h) fun v12 h1 =>
  Out.nor (T.set (some (.int .i64 0)) (Pos.of 13) (T.set (some v12) (Pos.of 12) fr)) h1
def Tryr28_2 (fr : F) (h : Hp) : Out :=
  gtO (T.get fr (Pos.of 13)) fun v13 => gtO (T.get fr (Pos.of 12)) fun v12 => bndO (oBin .lss .none v13 v12 h) fun v14 h0 =>
  Out.nor (T.set (some v14) (Pos.of 14) fr) h0
def Tryr28_3 (fr : F) (h : Hp) : Out :=
  gtO (T.get fr (Pos.of 13)) fun v13 => Out.nor (T.set (some v13) (Pos.of 6) fr) h
def Tryr28_4 (fr : F) (h : Hp) : Out :=
  gtO (T.get fr (Pos.of 0)) fun v0 => gtO (T.get fr (Pos.of 6)) fun v6 => bndO (oIdxS 1 v0 v6 h) fun v18 h2 =>
  bndO (oLoad1 v18 h2) fun v19 h3 =>
  Out.nor (T.set (some v19) (Pos.of 7) fr) h3
def Tryr28_5 (fr : F) (h : Hp) : Out :=
  gtO (T.get fr (Pos.of 7)) fun v7 => bndO (oBin .eql .none v7 (.str []) h) fun v21 h1 =>
  ifB v21 (gtO (T.get fr (Pos.of 6)) fun v6 => bndO (oBin .gtr .none v6 (.int .i64 0) h1) fun v24 h4 =>
  ifB v24 (Out.nor (T.set (some (.bool true)) (Pos.of 45) fr) h4) (bndO (oBin .neq .none v7 (.str []) h4) fun v28 h8 =>
  ifB v28 (bndO (oLenK 1 v7 h8) fun v32 h12 =>
  bndO (oBin .sub .none v32 (.int .i64 1) h12) fun v33 h13 =>
  bndO (oIdxStr v7 v33 h13) fun v34 h14 =>
  bndO (oBin .neq .none v34 (.int .u8 32) h14) fun v35 h15 =>
  ifB v35 (bndO (oLenK 1 v7 h15) fun v40 h20 =>
  bndO (oBin .sub .none v40 (.int .i64 1) h20) fun v41 h21 =>
  bndO (oIdxStr v7 v41 h21) fun v42 h22 =>
  bndO (oBin .neq .none v42 (.int .u8 40) h22) fun v43 h23 =>
  Out.nor (T.set (some v43) (Pos.of 45) fr) h23) (Out.nor (T.set (some (.bool false)) (Pos.of 45) fr) h15)) (Out.nor (T.set (some (.bool false)) (Pos.of 45) fr) h8))) (bndO (oBin .neq .none v7 (.str []) h1) fun v28 h8 =>
  ifB v28 (bndO (oLenK 1 v7 h8) fun v32 h12 =>
  bndO (oBin .sub .none v32 (.int .i64 1) h12) fun v33 h13 =>
  bndO (oIdxStr v7 v33 h13) fun v34 h14 =>
  bndO (oBin .neq .none v34 (.int .u8 32) h14) fun v35 h15 =>
  ifB v35 (bndO (oLenK 1 v7 h15) fun v40 h20 =>
  bndO (oBin .sub .none v40 (.int .i64 1) h20) fun v41 h21 =>
  bndO (oIdxStr v7 v41 h21) fun v42 h22 =>
  bndO (oBin .neq .none v42 (.int .u8 40) h22) fun v43 h23 =>
  Out.nor (T.set (some v43) (Pos.of 45) fr) h23) (Out.nor (T.set (some (.bool false)) (Pos.of 45) fr) h15)) (Out.nor (T.set (some (.bool false)) (Pos.of 45) fr) h8))
def Tryr28_6 (fr : F) (h : Hp) : Out :=
  Out.nor (T.set (some (.bool false)) (Pos.of 5) (T.set (some .nils) (Pos.of 4) fr)) h
def Tryr28_7 (fr : F) (h : Hp) : Out :=
  gtO (T.get fr (Pos.of 13)) fun v13 => bndO (oBin .add .none v13 (.int .i64 1) h) fun v46 h0 =>
  Out.nor (T.set (some v46) (Pos.of 13) fr) h0
def Tryr28_8 (fr : F) (h : Hp) : Out :=
  gtO (T.get fr (Pos.of 0)) fun v0 => gtO (T.get fr (Pos.of 1)) fun v1 => bndO (oBuild [.nils, .nils, (.int .i64 0), (.int .i64 0)] [(0, 1, v0), (1, 1, v1)] h) fun v49 h2 =>
  bndO (oBox 519 v49 h2) fun v50 h3 =>
  Out.nor (T.set (some v50) (Pos.of 8) fr) h3
def Tryr28_9 (fr : F) (h : Hp) : Out :=
  gtO (T.get fr (Pos.of 8)) fun v8 => bndO (TryF36r [v8, (.int .i64 0)] h) fun v53 h1 =>
  bndO (oExtract 0 v53 h1) fun v54 h3 =>
  bndO (oExtract 1 v53 h3) fun v55 h4 =>
  Out.nor (T.set (some v55) (Pos.of 10) (T.set (some v54) (Pos.of 9) fr)) h4
def Tryr28_10 (fr : F) (h : Hp) : Out :=
  gtO (T.get fr (Pos.of 10)) fun w1_10 => ifB w1_10 (gtO (T.get fr (Pos.of 8)) fun w3_8 => bndO (TryF37 [w3_8] (bumpH 0 h)) fun v60 h4 =>
  gtO (T.get fr (Pos.of 9)) fun w0_9 => bndO (oBin .eql .none v60 (.str []) h4) fun v61 _ =>
  ifB v61 (gtO (T.get fr (Pos.of 8)) fun w8_8 => bndO (oNilCheck w8_8 h4) fun v65 _ =>
  bndO (oFieldAddr 2 v65 h4) fun v66 _ =>
  bndO (oLoad1 v66 h4) fun v67 _ =>
  gtO (T.get fr (Pos.of 1)) fun w12_1 => bndO (oLenK 2 w12_1 h4) fun v69 _ =>
  bndO (oBin .eql .none v67 v69 h4) fun v70 _ =>
  Out.nor (T.set (some v70) (Pos.of 5) (T.set (some w0_9) (Pos.of 4) fr)) h4) (Out.nor (T.set (some (.bool false)) (Pos.of 5) (T.set (some w0_9) (Pos.of 4) fr)) h4)) (gtO (T.get fr (Pos.of 9)) fun w0_9 => Out.nor (T.set (some (.bool false)) (Pos.of 5) (T.set (some w0_9) (Pos.of 4) fr)) (bumpH 0 h))
def Tryb28_2 : F → Hp → Out := (seqO Tryr28_2 (seqO (cndX (.tmp 14) Out.nor (Out.ex 0)) (seqO (blkO 1 (seqO Tryr28_3 (seqO Tryr28_4 (seqO Tryr28_5 (cndX (.tmp 45) (seqO Tryr28_6 Out.ret) Out.nor))))) Tryr28_7)))
def Tryd28 : F → Hp → Out := (seqO Tryr28_0 (seqO (seqO Tryr28_1 (blkO 0 (loopO Tryb28_2 lf))) (seqO Tryr28_8 (seqO Tryr28_9 (seqO Tryr28_10 Out.ret)))))
def Trye28 : FuncId → Option Fun := fun f => match Nat.beq f 451 with | true => some TryF36r | false => match Nat.beq f 452 with | true => some TryF37 | false => none
def Tryp28 : Plans := fun id => match Nat.beq id 10 with | true => some ([0, 0, 2, 6, 14, 30, 62, 126, 254, 510, 1022, 2046, 254, 4350, 16382, 32766, 255, 131071], [(1, .pure), (2, .pure), (3, .pure), (4, .heavy), (0, .pure), (5, .pure), (6, .pure), (7, .pure), (8, .pure), (9, .pure), (10, .pure), (11, .read 0), (12, .pure), (13, .pure), (14, .pure), (15, .pure), (16, .pure), (17, .pure)]) | false => none
def TryF28 : Fun := funX Tryz.prog TryG Tryk28 Trye28 Tryp28 lf Tryz.f293
theorem TryD28 : denX Tryz.prog TryG Tryz.f293.ntmps Tryk28 Trye28 Tryp28 lf (codeOf Tryz.f293) = Tryd28 := by kernel_rfl
theorem TryF28_eq (x0 x1 : V) (h : Hp) : TryF28 [x0, x1] h = outR Tryz.prog [.tmp 4, .tmp 5] (Tryd28 (T.set (some x1) (Pos.of 1) (T.set (some x0) (Pos.of 0) T.nil)) h) := funX_eq (by kernel_rfl) TryD28 (by kernel_rfl) h
theorem Tryc28 : CallOk Tryz.prog TryG 293 TryF28 := funX_ok Trymix (callsOk_cons Tryc36r (callsOk_cons Tryc37 callsOk_0)) Tryz.func293 (by kernel_rfl)
def Tryk22 : Nat → Bool := fun t => memN t [0]
def Tryr22_0 (fr : F) (h : Hp) : Out :=
  gtO (T.get fr (Pos.of 0)) fun v0 => bndO (oNilCheck v0 h) fun v4 h2 =>
  bndO (oFieldAddr 0 v4 h2) fun v5 h3 =>
  bndO (oLoad1 v5 h3) fun v6 h4 =>
  bndO (oBuild [(.int .i64 0), .nils, .nils, (.int .i64 0), (.int .i64 0), .nils, (.int .i64 0), .nils, (.bool false), (.int .i64 0), (.bool false)] [(0, 1, v6)] h4) fun v7 h5 =>
  bndO (oNilCheck v0 h5) fun v8 h6 =>
  bndO (oStore 11 v8 v7 h6) fun _u7 h7 =>
  Out.nor fr h7
def Tryd22 : F → Hp → Out := Tryr22_0
def Trye22 : FuncId → Option Fun := fun f => none
def Tryp22 : Plans := fun id => none
def TryF22 : Fun := funX Tryz.prog TryG Tryk22 Trye22 Tryp22 lf Tryz.f156
theorem TryD22 : denX Tryz.prog TryG Tryz.f156.ntmps Tryk22 Trye22 Tryp22 lf (codeOf Tryz.f156) = Tryd22 := by kernel_rfl
theorem TryF22_eq (x0 : V) (h : Hp) : TryF22 [x0] h = outR Tryz.prog [] (Tryd22 (T.set (some x0) (Pos.of 0) T.nil) h) := funX_eq (by kernel_rfl) TryD22 (by kernel_rfl) h
theorem Tryc22 : CallOk Tryz.prog TryG 156 TryF22 := funX_ok Trymix callsOk_0 Tryz.func156 (by kernel_rfl)
def Tryk21 : Nat → Bool := fun t => memN t [0, 2, 3, 4, 5, 6, 7, 8, 9, 27, 46, 62, 65, 112, 122]
def Tryr21_0 (fr : F) (h : Hp) : Out :=
  Out.nor (T.set (some .nils) (Pos.of 2) fr) h
def Tryr21_1 (fr : F) (h : Hp) : Out :=
  gtO (T.get fr (Pos.of 0)) fun v0 => bndO (oNilCheck v0 h) fun v11 h1 =>
  bndO (oFieldAddr 5 v11 h1) fun v12 h2 =>
  bndO (oLoad1 v12 h2) fun v13 h3 =>
  bndO (oBytesStr v13 h3) fun v14 h4 =>
  bndO (TryF26 [v14, (.str [13])] h4) fun v15 h5 =>
  Out.nor (T.set (some v15) (Pos.of 3) fr) h5
def Tryr21_2 (fr : F) (h : Hp) : Out :=
  gtO (T.get fr (Pos.of 0)) fun v0 => bndO (oNilCheck v0 h) fun v17 h1 =>
  bndO (oFieldAddr 5 v17 h1) fun v18 h2 =>
  bndO (oStore 1 v18 .nils h2) fun _u3 h3 =>
  Out.nor fr h3
def Tryr21_3 (fr : F) (h : Hp) : Out :=
  gtO (T.get fr (Pos.of 3)) fun v3 => bndO (TryF27 [v3] h) fun v21 h1 =>
  bndO (oExtract 0 v21 h1) fun v22 h3 =>
  bndO (oExtract 1 v21 h3) fun v23 h4 =>
  bndO (oExtract 2 v21 h4) fun v24 h5 =>
  bndO (oExtract 3 v21 h5) fun v25 h6 =>
  Out.nor (T.set (some v25) (Pos.of 7) (T.set (some v24) (Pos.of 6) (T.set (some v23) (Pos.of 5) (T.set (some v22) (Pos.of 4) fr)))) h6
def Tryr21_4 (fr : F) (h : Hp) : Out :=
  gtO (T.get fr (Pos.of 7)) fun v7 => bndO (oUn .not v7 h) fun v27 h1 =>
  Out.nor (T.set (some v27) (Pos.of 27) fr) h1
def Tryr21_5 (fr : F) (h : Hp) : Out :=
  gtO (T.get fr (Pos.of 0)) fun w0_0 => bndO (oNilCheck w0_0 (bumpH 1 h)) fun v30 _ =>
  bndO (oFieldAddr 1 v30 (bumpH 1 h)) fun v31 _ =>
  bndO (oLoad1 v31 (bumpH 1 h)) fun v32 _ =>
  gtO (T.get fr (Pos.of 3)) fun w4_3 => alcO (aBuildSlice 9 [(.str [])] 1 [(0, 1, w4_3)]) fun ob5 mk5 =>
  bndO (oAppend 9 1 16 v32 (mk5 (Hp.next h)) (Hp.put (bumpH 1 h) (Hp.next h) (some ob5))) fun v35 h6 =>
  gtO (T.get fr (Pos.of 0)) fun w7_0 => bndO (oNilCheck w7_0 h6) fun v37 _ =>
  bndO (oFieldAddr 2 v37 h6) fun v38 _ =>
  bndO (oLoad1 v38 h6) fun v39 _ => chk (fun h => oLoad1 v38 h) v39 (
  bndO (TryF28 [v35, v39] h6) fun v40 h11 =>
  bndO (oExtract 0 v40 h11) fun v41 _ =>
  bndO (oExtract 1 v40 h11) fun v42 _ =>
  Out.nor (T.set (some v42) (Pos.of 9) (T.set (some v41) (Pos.of 8) fr)) h11) 1 [(bumpH 1 h)]
def Tryr21_6 (fr : F) (h : Hp) : Out :=
  gtO (T.get fr (Pos.of 0)) fun v0 => bndO (TryF22 [v0] h) fun v44 h1 =>
  Out.nor fr h1
def Tryr21_7 (fr : F) (h : Hp) : Out :=
  gtO (T.get fr (Pos.of 9)) fun v9 => bndO (oUn .not v9 h) fun v46 h1 =>
  Out.nor (T.set (some v46) (Pos.of 46) fr) h1
def Tryr21_8 (fr : F) (h : Hp) : Out :=
  bndO (oBuild [(.int .i64 0), .nils] [(0, 1, (.int .i64 3))] h) fun v47 h0 =>
  bndO (oBuildSlice 155 [(.int .i64 0), .nils] 1 [(0, 2, v47)] h0) fun v48 h1 =>
  Out.nor (T.set (some v48) (Pos.of 2) fr) h1
def Tryr21_9 (fr : F) (h : Hp) : Out :=
  gtO (T.get fr (Pos.of 8)) fun v8 => bndO (oBuild [(.int .i64 0), .nils] [(0, 1, (.int .i64 1)), (1, 1, v8)] h) fun v50 h1 =>
  bndO (oBuildSlice 155 [(.int .i64 0), .nils] 1 [(0, 2, v50)] h1) fun v51 h2 =>
  Out.nor (T.set (some v51) (Pos.of 2) fr) h2
def Tryr21_10 (fr : F) (h : Hp) : Out :=
  gtO (T.get fr (Pos.of 5)) fun w0_5 => gtO (T.get fr (Pos.of 0)) fun w1_0 => bndO (oNilCheck w1_0 (bumpH 0 h)) fun v54 _ =>
  bndO (oFieldAddr 0 v54 (bumpH 0 h)) fun v55 _ =>
  bndO (oLoad1 v55 (bumpH 0 h)) fun v56 _ =>
  gtO (T.get fr (Pos.of 0)) fun w5_0 => bndO (oNilCheck w5_0 (bumpH 0 h)) fun v58 _ =>
  bndO (oFieldAddr 4 v58 (bumpH 0 h)) fun v59 _ =>
  bndO (oLoad1 v59 (bumpH 0 h)) fun v60 _ =>
  bndO (oBin .sub .none v56 v60 (bumpH 0 h)) fun v61 _ =>
  bndO (oBin .gtr .none w0_5 v61 (bumpH 0 h)) fun v62 _ =>
  Out.nor (T.set (some v62) (Pos.of 62) fr) (bumpH 0 h)
def Tryr21_11 (fr : F) (h : Hp) : Out :=
  gtO (T.get fr (Pos.of 0)) fun v0 => bndO (TryF22 [v0] h) fun v64 h1 =>
  Out.nor fr h1
def Tryr21_12 (fr : F) (h : Hp) : Out :=
  gtO (T.get fr (Pos.of 6)) fun v6 => Out.nor (T.set (some v6) (Pos.of 65) fr) h
def Tryr21_13 (fr : F) (h : Hp) : Out :=
  gtO (T.get fr (Pos.of 0)) fun v0 => gtO (T.get fr (Pos.of 5)) fun v5 => bndO (oNilCheck v0 h) fun v69 h3 =>
  bndO (oFieldAddr 9 v69 h3) fun v70 h4 =>
  bndO (oStore 1 v70 v5 h4) fun _u5 h5 =>
  bndO (oNilCheck v0 h5) fun v71 h6 =>
  bndO (oFieldAddr 10 v71 h6) fun v72 h7 =>
  bndO (oStore 1 v72 (.bool true) h7) fun _u8 h8 =>
  Out.nor fr h8
def Tryr21_14 (fr : F) (h : Hp) : Out :=
  bndO (oBuild [(.int .i64 0), .nils] [(0, 1, (.int .i64 3))] h) fun v73 h0 =>
  bndO (oBuildSlice 155 [(.int .i64 0), .nils] 1 [(0, 2, v73)] h0) fun v74 h1 =>
  Out.nor (T.set (some v74) (Pos.of 2) fr) h1
def Tryr21_15 (fr : F) (h : Hp) : Out :=
  gtO (T.get fr (Pos.of 0)) fun v0 => bndO (oNilCheck v0 h) fun v77 h2 =>
  bndO (oFieldAddr 1 v77 h2) fun v78 h3 =>
  bndO (oLoad1 v78 h3) fun v79 h4 =>
  gtO (T.get fr (Pos.of 4)) fun v4 => bndO (oBuildSlice 9 [(.str [])] 1 [(0, 1, v4)] h4) fun v81 h6 =>
  bndO (oAppend 9 1 16 v79 v81 h6) fun v82 h7 =>
  bndO (oNilCheck v0 h7) fun v83 h8 =>
  bndO (oFieldAddr 1 v83 h8) fun v84 h9 =>
  bndO (oStore 1 v84 v82 h9) fun _u10 h10 =>
  Out.nor fr h10
def Tryr21_16 (fr : F) (h : Hp) : Out :=
  gtO (T.get fr (Pos.of 0)) fun v0 => bndO (oNilCheck v0 h) fun v86 h1 =>
  bndO (oFieldAddr 3 v86 h1) fun v87 h2 =>
  bndO (oLoad1 v87 h2) fun v88 h3 =>
  gtO (T.get fr (Pos.of 3)) fun v3 => bndO (oLenK 1 v3 h3) fun v90 h5 =>
  bndO (oBin .add .none v88 v90 h5) fun v91 h6 =>
  bndO (oNilCheck v0 h6) fun v92 h7 =>
  bndO (oFieldAddr 3 v92 h7) fun v93 h8 =>
  bndO (oStore 1 v93 v91 h8) fun _u9 h9 =>
  Out.nor fr h9
def Tryr21_17 (fr : F) (h : Hp) : Out :=
  gtO (T.get fr (Pos.of 0)) fun v0 => bndO (oNilCheck v0 h) fun v95 h1 =>
  bndO (oFieldAddr 4 v95 h1) fun v96 h2 =>
  bndO (oLoad1 v96 h2) fun v97 h3 =>
  gtO (T.get fr (Pos.of 5)) fun v5 => bndO (oBin .add .none v97 v5 h3) fun v99 h5 =>
  bndO (oNilCheck v0 h5) fun v100 h6 =>
  bndO (oFieldAddr 4 v100 h6) fun v101 h7 =>
  bndO (oStore 1 v101 v99 h7) fun _u8 h8 =>
  Out.nor fr h8
def Tryr21_18 (fr : F) (h : Hp) : Out :=
  gtO (T.get fr (Pos.of 0)) fun v0 => gtO (T.get fr (Pos.of 5)) fun v5 => bndO (oBin .gtr .none v5 (.int .i64 0) h) fun v106 h4 =>
  bndO (oNilCheck v0 h4) fun v107 h5 =>
  bndO (oFieldAddr 6 v107 h5) fun v108 h6 =>
  bndO (oStore 1 v108 v5 h6) fun _u7 h7 =>
  bndO (oNilCheck v0 h7) fun v109 h8 =>
  bndO (oFieldAddr 8 v109 h8) fun v110 h9 =>
  bndO (oStore 1 v110 v106 h9) fun _u10 h10 =>
  Out.nor fr h10
def Tryr21_19 (fr : F) (h : Hp) : Out :=
  gtO (T.get fr (Pos.of 5)) fun v5 => bndO (oBin .eql .none v5 (.int .i64 0) h) fun v112 h1 =>
  Out.nor (T.set (some v112) (Pos.of 112) fr) h1
def Tryr21_20 (fr : F) (h : Hp) : Out :=
  gtO (T.get fr (Pos.of 0)) fun v0 => bndO (oNilCheck v0 h) fun v115 h2 =>
  bndO (oFieldAddr 2 v115 h2) fun v116 h3 =>
  bndO (oLoad1 v116 h3) fun v117 h4 =>
  bndO (oBuildSlice 9 [(.str [])] 1 [(0, 1, (.str []))] h4) fun v118 h5 =>
  bndO (oAppend 9 1 16 v117 v118 h5) fun v119 h6 =>
  bndO (oNilCheck v0 h6) fun v120 h7 =>
  bndO (oFieldAddr 2 v120 h7) fun v121 h8 =>
  bndO (oStore 1 v121 v119 h8) fun _u9 h9 =>
  Out.nor fr h9
def Tryr21_21 (fr : F) (h : Hp) : Out :=
  gtO (T.get fr (Pos.of 6)) fun v6 => Out.nor (T.set (some v6) (Pos.of 122) fr) h
def Tryr21_22 (fr : F) (h : Hp) : Out :=
  Out.nor (T.set (some .nils) (Pos.of 2) fr) h
def Tryr21_23 (fr : F) (h : Hp) : Out :=
  bndO (oBuild [(.int .i64 0), .nils] [(0, 1, (.int .i64 2))] h) fun v123 h0 =>
  bndO (oBuildSlice 155 [(.int .i64 0), .nils] 1 [(0, 2, v123)] h0) fun v124 h1 =>
  Out.nor (T.set (some v124) (Pos.of 2) fr) h1
def Tryd21 : F → Hp → Out := (seqO Tryr21_0 (seqO Tryr21_1 (seqO Tryr21_2 (seqO Tryr21_3 (seqO (seqO Tryr21_4 (cndX (.tmp 27) (seqO Tryr21_5 (seqO Tryr21_6 (seqO (seqO Tryr21_7 (cndX (.tmp 46) (seqO Tryr21_8 Out.ret) Out.nor)) (seqO Tryr21_9 Out.ret)))) Out.nor)) (seqO (seqO Tryr21_10 (cndX (.tmp 62) (seqO Tryr21_11 (seqO (seqO Tryr21_12 (cndX (.tmp 65) Tryr21_13 Out.nor)) (seqO Tryr21_14 Out.ret))) Out.nor)) (seqO Tryr21_15 (seqO Tryr21_16 (seqO Tryr21_17 (seqO Tryr21_18 (seqO (seqO Tryr21_19 (cndX (.tmp 112) Tryr21_20 Out.nor)) (seqO (seqO Tryr21_21 (cndX (.tmp 122) (seqO Tryr21_22 Out.ret) Out.nor)) (seqO Tryr21_23 Out.ret)))))))))))))
def Trye21 : FuncId → Option Fun := fun f => match Nat.beq f 291 with | true => some TryF26 | false => match Nat.beq f 292 with | true => some TryF27 | false => match Nat.beq f 293 with | true => some TryF28 | false => match Nat.beq f 156 with | true => some TryF22 | false => none
def Tryp21 : Plans := fun id => match Nat.beq id 5 with | true => some ([0, 1, 3, 7, 0, 16, 63, 0, 128, 384, 896, 2047, 4095, 8191, 8191, 16383, 65535], [(0, .pure), (1, .pure), (2, .pure), (3, .read 0), (4, .pure), (5, .alloc), (6, .heavy), (7, .pure), (8, .pure), (9, .pure), (10, .read 1), (11, .heavy), (12, .pure), (13, .pure), (14, .pure), (15, .pure), (16, .pure)]) | false => match Nat.beq id 10 with | true => some ([0, 0, 2, 6, 14, 0, 32, 96, 224, 510, 1023], [(0, .pure), (1, .pure), (2, .pure), (3, .pure), (4, .read 0), (5, .pure), (6, .pure), (7, .pure), (8, .read 0), (9, .pure), (10, .pure)]) | false => none
def TryF21 : Fun := funX Tryz.prog TryG Tryk21 Trye21 Tryp21 lf Tryz.f155
theorem TryD21 : denX Tryz.prog TryG Tryz.f155.ntmps Tryk21 Trye21 Tryp21 lf (codeOf Tryz.f155) = Tryd21 := by kernel_rfl
theorem TryF21_eq (x0 : V) (h : Hp) : TryF21 [x0] h = outR Tryz.prog [.tmp 2] (Tryd21 (T.set (some x0) (Pos.of 0) T.nil) h) := funX_eq (by kernel_rfl) TryD21 (by kernel_rfl) h
theorem Tryc21 : CallOk Tryz.prog TryG 155 TryF21 := funX_ok Trymix (callsOk_cons Tryc26 (callsOk_cons Tryc27 (callsOk_cons Tryc28 (callsOk_cons Tryc22 callsOk_0)))) Tryz.func155 (by kernel_rfl)
def Tryk20 : Nat → Bool := fun t => memN t [0, 1, 4, 5, 6, 11, 60]
def Tryr20_0 (fr : F) (h : Hp) : Out :=
  Out.nor (T.set (some .nils) (Pos.of 4) fr) h
def Tryr20_1 (fr : F) (h : Hp) : Out :=
  gtO (T.get fr (Pos.of 0)) fun v0 => bndO (oNilCheck v0 h) fun v8 h1 =>
  bndO (oFieldAddr 9 v8 h1) fun v9 h2 =>
  bndO (oLoad1 v9 h2) fun v10 h3 =>
  bndO (oBin .gtr .none v10 (.int .i64 0) h3) fun v11 h4 =>
  Out.nor (T.set (some v11) (Pos.of 11) fr) h4
def Tryr20_2 (fr : F) (h : Hp) : Out :=
  gtO (T.get fr (Pos.of 0)) fun v0 => bndO (oNilCheck v0 h) fun v13 h1 =>
  bndO (oFieldAddr 9 v13 h1) fun v14 h2 =>
  bndO (oLoad1 v14 h2) fun v15 h3 =>
  gtO (T.get fr (Pos.of 1)) fun v1 => bndO (oLenK 2 v1 h3) fun v17 h5 =>
  bndO (oMin v15 v17 h5) fun v18 h6 =>
  Out.nor (T.set (some v18) (Pos.of 5) fr) h6
def Tryr20_3 (fr : F) (h : Hp) : Out :=
  gtO (T.get fr (Pos.of 0)) fun v0 => bndO (oNilCheck v0 h) fun v20 h1 =>
  bndO (oFieldAddr 9 v20 h1) fun v21 h2 =>
  bndO (oLoad1 v21 h2) fun v22 h3 =>
  gtO (T.get fr (Pos.of 5)) fun v5 => bndO (oBin .sub .none v22 v5 h3) fun v24 h5 =>
  bndO (oNilCheck v0 h5) fun v25 h6 =>
  bndO (oFieldAddr 9 v25 h6) fun v26 h7 =>
  bndO (oStore 1 v26 v24 h7) fun _u8 h8 =>
  Out.nor fr h8
def Tryr20_4 (fr : F) (h : Hp) : Out :=
  gtO (T.get fr (Pos.of 1)) fun v1 => gtO (T.get fr (Pos.of 5)) fun v5 => bndO (oSlice 1 v1 (some v5) none none h) fun v29 h2 =>
  Out.nor (T.set (some v29) (Pos.of 4) fr) h2
def Tryr20_5 (fr : F) (h : Hp) : Out :=
  gtO (T.get fr (Pos.of 0)) fun v0 => bndO (oNilCheck v0 h) fun v31 h1 =>
  bndO (oFieldAddr 6 v31 h1) fun v32 h2 =>
  bndO (oLoad1 v32 h2) fun v33 h3 =>
  gtO (T.get fr (Pos.of 1)) fun v1 => bndO (oLenK 2 v1 h3) fun v35 h5 =>
  bndO (oMin v33 v35 h5) fun v36 h6 =>
  Out.nor (T.set (some v36) (Pos.of 6) fr) h6
def Tryr20_6 (fr : F) (h : Hp) : Out :=
  gtO (T.get fr (Pos.of 0)) fun w1_0 => bndO (oNilCheck w1_0 (bumpH 0 h)) fun v39 _ =>
  bndO (oFieldAddr 7 v39 (bumpH 0 h)) fun v40 _ =>
  bndO (oLoad1 v40 (bumpH 0 h)) fun v41 _ =>
  gtO (T.get fr (Pos.of 1)) fun w5_1 => gtO (T.get fr (Pos.of 6)) fun w6_6 => bndO (oSlice 1 w5_1 none (some w6_6) none (bumpH 0 h)) fun v44 _ =>
  bndO (oAppend 5 1 1 v41 v44 (bumpH 0 h)) fun v45 h8 =>
  gtO (T.get fr (Pos.of 0)) fun w0_0 => bndO (oNilCheck w0_0 h8) fun v46 _ =>
  bndO (oFieldAddr 7 v46 h8) fun v47 _ =>
  bndO (oStore 1 v47 v45 h8) fun _u11 h11 =>
  Out.nor fr h11
def Tryr20_7 (fr : F) (h : Hp) : Out :=
  gtO (T.get fr (Pos.of 0)) fun v0 => bndO (oNilCheck v0 h) fun v49 h1 =>
  bndO (oFieldAddr 6 v49 h1) fun v50 h2 =>
  bndO (oLoad1 v50 h2) fun v51 h3 =>
  gtO (T.get fr (Pos.of 6)) fun v6 => bndO (oBin .sub .none v51 v6 h3) fun v53 h5 =>
  bndO (oNilCheck v0 h5) fun v54 h6 =>
  bndO (oFieldAddr 6 v54 h6) fun v55 h7 =>
  bndO (oStore 1 v55 v53 h7) fun _u8 h8 =>
  Out.nor fr h8
def Tryr20_8 (fr : F) (h : Hp) : Out :=
  gtO (T.get fr (Pos.of 0)) fun v0 => bndO (oNilCheck v0 h) fun v57 h1 =>
  bndO (oFieldAddr 6 v57 h1) fun v58 h2 =>
  bndO (oLoad1 v58 h2) fun v59 h3 =>
  bndO (oBin .eql .none v59 (.int .i64 0) h3) fun v60 h4 =>
  Out.nor (T.set (some v60) (Pos.of 60) fr) h4
def Tryr20_9 (fr : F) (h : Hp) : Out :=
  gtO (T.get fr (Pos.of 0)) fun w1_0 => bndO (oNilCheck w1_0 (bumpH 1 h)) fun v63 _ =>
  bndO (oFieldAddr 2 v63 (bumpH 1 h)) fun v64 _ =>
  bndO (oLoad1 v64 (bumpH 1 h)) fun v65 _ =>
  gtO (T.get fr (Pos.of 0)) fun w5_0 => bndO (oNilCheck w5_0 (bumpH 1 h)) fun v67 _ =>
  bndO (oFieldAddr 7 v67 (bumpH 1 h)) fun v68 _ =>
  bndO (oLoad1 v68 (bumpH 1 h)) fun v69 _ =>
  bndO (oBytesStr v69 (bumpH 1 h)) fun v70 _ =>
  alcO (aBuildSlice 9 [(.str [])] 1 [(0, 1, v70)]) fun ob10 mk10 =>
  bndO (oAppend 9 1 16 v65 (mk10 (Hp.next h)) (Hp.put (bumpH 1 h) (Hp.next h) (some ob10))) fun v72 h11 =>
  gtO (T.get fr (Pos.of 0)) fun w0_0 => bndO (oNilCheck w0_0 h11) fun v73 _ =>
  bndO (oFieldAddr 2 v73 h11) fun v74 _ =>
  bndO (oStore 1 v74 v72 h11) fun _u14 h14 =>
  Out.nor fr h14
def Tryr20_10 (fr : F) (h : Hp) : Out :=
  gtO (T.get fr (Pos.of 0)) fun v0 => bndO (oNilCheck v0 h) fun v77 h2 =>
  bndO (oFieldAddr 7 v77 h2) fun v78 h3 =>
  bndO (oStore 1 v78 .nils h3) fun _u4 h4 =>
  bndO (oNilCheck v0 h4) fun v79 h5 =>
  bndO (oFieldAddr 8 v79 h5) fun v80 h6 =>
  bndO (oStore 1 v80 (.bool false) h6) fun _u7 h7 =>
  Out.nor fr h7
def Tryr20_11 (fr : F) (h : Hp) : Out :=
  gtO (T.get fr (Pos.of 1)) fun v1 => gtO (T.get fr (Pos.of 6)) fun v6 => bndO (oSlice 1 v1 (some v6) none none h) fun v83 h2 =>
  Out.nor (T.set (some v83) (Pos.of 4) fr) h2
def Tryd20 : F → Hp → Out := (seqO Tryr20_0 (seqO (seqO Tryr20_1 (cndX (.tmp 11) (seqO Tryr20_2 (seqO Tryr20_3 (seqO Tryr20_4 Out.ret))) Out.nor)) (seqO Tryr20_5 (seqO Tryr20_6 (seqO Tryr20_7 (seqO (seqO Tryr20_8 (cndX (.tmp 60) (seqO Tryr20_9 Tryr20_10) Out.nor)) (seqO Tryr20_11 Out.ret)))))))
def Trye20 : FuncId → Option Fun := fun f => none
def Tryp20 : Plans := fun id => match Nat.beq id 6 with | true => some ([0, 0, 2, 6, 14, 0, 0, 96, 254, 511, 1023, 2047], [(1, .pure), (2, .pure), (3, .pure), (4, .read 0), (5, .pure), (6, .pure), (7, .pure), (8, .heavy), (0, .pure), (9, .pure), (10, .pure), (11, .heavy)]) | false => match Nat.beq id 9 with | true => some ([0, 0, 2, 6, 14, 0, 32, 96, 224, 480, 992, 2046, 4095, 8191, 16383], [(1, .pure), (2, .pure), (3, .pure), (4, .read 0), (5, .pure), (6, .pure), (7, .pure), (8, .read 0), (9, .read 0), (10, .alloc), (11, .heavy), (0, .pure), (12, .pure), (13, .pure), (14, .heavy)]) | false => none
def TryF20 : Fun := funX Tryz.prog TryG Tryk20 Trye20 Tryp20 lf Tryz.f154
theorem TryD20 : denX Tryz.prog TryG Tryz.f154.ntmps Tryk20 Trye20 Tryp20 lf (codeOf Tryz.f154) = Tryd20 := by kernel_rfl
theorem TryF20_eq (x0 x1 : V) (h : Hp) : TryF20 [x0, x1] h = outR Tryz.prog [.tmp 4] (Tryd20 (T.set (some x1) (Pos.of 1) (T.set (some x0) (Pos.of 0) T.nil)) h) := funX_eq (by kernel_rfl) TryD20 (by kernel_rfl) h
theorem Tryc20 : CallOk Tryz.prog TryG 154 TryF20 := funX_ok Trymix callsOk_0 Tryz.func154 (by kernel_rfl)
def Tryk16 : Nat → Bool := fun t => memN t [0, 1, 4, 5, 6, 7, 9, 12, 23, 61, 71, 81]
def Tryr16_0 (fr : F) (h : Hp) : Out :=
  Out.nor (T.set (some .nils) (Pos.of 4) fr) h
def Tryr16_1 (fr : F) (h : Hp) : Out :=
  gtO (T.get fr (Pos.of 0)) fun v0 => bndO (oBin .eql (.ptr 11) v0 .nilp h) fun v9 h1 =>
  Out.nor (T.set (some v9) (Pos.of 9) fr) h1
def Tryr16_2 (fr : F) (h : Hp) : Out :=
  Out.nor (T.set (some .nils) (Pos.of 4) fr) h
def Tryr16_3 (fr : F) (h : Hp) : Out :=
  Out.nor (T.set (some .nils) (Pos.of 5) fr) h
def Tryr16_4 (fr : F) (h : Hp) : Out :=
  gtO (T.get fr (Pos.of 1)) fun v1 => bndO (oLenK 2 v1 h) fun v11 h1 =>
  bndO (oBin .gtr .none v11 (.int .i64 0) h1) fun v12 h2 =>
  Out.nor (T.set (some v12) (Pos.of 12) fr) h2
def Tryr16_5 (fr : F) (h : Hp) : Out :=
  gtO (T.get fr (Pos.of 0)) fun v0 => bndO (oNilCheck v0 h) fun v14 h1 =>
  bndO (oFieldAddr 9 v14 h1) fun v15 h2 =>
  bndO (oLoad1 v15 h2) fun v16 h3 =>
  bndO (oBin .gtr .none v16 (.int .i64 0) h3) fun v17 h4 =>
  ifB v17 (Out.nor (T.set (some (.bool true)) (Pos.of 23) fr) h4) (bndO (oNilCheck v0 h4) fun v20 h7 =>
  bndO (oFieldAddr 8 v20 h7) fun v21 h8 =>
  bndO (oLoad1 v21 h8) fun v22 h9 =>
  Out.nor (T.set (some v22) (Pos.of 23) fr) h9)
def Tryr16_6 (fr : F) (h : Hp) : Out :=
  gtO (T.get fr (Pos.of 0)) fun v0 => gtO (T.get fr (Pos.of 1)) fun v1 => bndO (TryF20 [v0, v1] h) fun v26 h2 =>
  Out.nor (T.set (some v26) (Pos.of 1) fr) h2
def Tryr16_7 (fr : F) (h : Hp) : Out :=
  gtO (T.get fr (Pos.of 1)) fun v1 => bndO (oIdxS 1 v1 (.int .i64 0) h) fun v28 h1 =>
  bndO (oLoad1 v28 h1) fun v29 h2 =>
  Out.nor (T.set (some v29) (Pos.of 6) fr) h2
def Tryr16_8 (fr : F) (h : Hp) : Out :=
  gtO (T.get fr (Pos.of 1)) fun v1 => bndO (oSlice 1 v1 (some (.int .i64 1)) none none h) fun v31 h1 =>
  Out.nor (T.set (some v31) (Pos.of 1) fr) h1
def Tryr16_15 (fr : F) (h : Hp) : Out :=
  gtO (T.get fr (Pos.of 0)) fun v0 => bndO (oNilCheck v0 h) fun v73 h1 =>
  bndO (oFieldAddr 10 v73 h1) fun v74 h2 =>
  bndO (oLoad1 v74 h2) fun v75 h3 =>
  Out.nor (T.set (some v75) (Pos.of 71) fr) h3
def Tryr16_16 (fr : F) (h : Hp) : Out :=
  gtO (T.get fr (Pos.of 0)) fun v0 => gtO (T.get fr (Pos.of 6)) fun v6 => bndO (oBin .neq .none v6 (.int .u8 10) h) fun v78 h2 =>
  bndO (oNilCheck v0 h2) fun v79 h3 =>
  bndO (oFieldAddr 10 v79 h3) fun v80 h4 =>
  bndO (oStore 1 v80 v78 h4) fun _u5 h5 =>
  Out.nor fr h5
def Tryr16_17 (fr : F) (h : Hp) : Out :=
  gtO (T.get fr (Pos.of 6)) fun v6 => bndO (oBin .eql .none v6 (.int .u8 10) h) fun v83 h1 =>
  Out.nor (T.set (some v83) (Pos.of 81) fr) h1
def Tryr16_18 (fr : F) (h : Hp) : Out :=
  gtO (T.get fr (Pos.of 5)) fun v5 => gtO (T.get fr (Pos.of 0)) fun v0 => bndO (TryF21 [v0] h) fun v86 h2 =>
  bndO (oAppend 155 2 32 v5 v86 h2) fun v87 h3 =>
  Out.nor (T.set (some v87) (Pos.of 5) fr) h3
def Tryr16_9 (fr : F) (h : Hp) : Out :=
  gtO (T.get fr (Pos.of 0)) fun v0 => bndO (oNilCheck v0 h) fun v34 h2 =>
  bndO (oFieldAddr 5 v34 h2) fun v35 h3 =>
  bndO (oLoad1 v35 h3) fun v36 h4 =>
  gtO (T.get fr (Pos.of 6)) fun v6 => bndO (oBuildSlice 5 [(.int .u8 0)] 1 [(0, 1, v6)] h4) fun v38 h6 =>
  bndO (oAppend 5 1 1 v36 v38 h6) fun v39 h7 =>
  bndO (oNilCheck v0 h7) fun v40 h8 =>
  bndO (oFieldAddr 5 v40 h8) fun v41 h9 =>
  bndO (oStore 1 v41 v39 h9) fun _u10 h10 =>
  Out.nor fr h10
def Tryr16_10 (fr : F) (h : Hp) : Out :=
  gtO (T.get fr (Pos.of 0)) fun w0_0 => bndO (oNilCheck w0_0 (bumpH 0 h)) fun v43 _ =>
  bndO (oFieldAddr 3 v43 (bumpH 0 h)) fun v44 _ =>
  bndO (oLoad1 v44 (bumpH 0 h)) fun v45 _ =>
  gtO (T.get fr (Pos.of 0)) fun w4_0 => bndO (oNilCheck w4_0 (bumpH 0 h)) fun v47 _ =>
  bndO (oFieldAddr 5 v47 (bumpH 0 h)) fun v48 _ =>
  bndO (oLoad1 v48 (bumpH 0 h)) fun v49 _ =>
  bndO (oLenK 2 v49 (bumpH 0 h)) fun v50 _ =>
  bndO (oBin .add .none v45 v50 (bumpH 0 h)) fun v51 _ =>
  Out.nor (T.set (some v51) (Pos.of 7) fr) (bumpH 0 h)
def Tryr16_11 (fr : F) (h : Hp) : Out :=
  gtO (T.get fr (Pos.of 7)) fun v7 => bndO (oBin .gtr .none v7 (.int .i64 4096) h) fun v53 h1 =>
  ifB v53 (gtO (T.get fr (Pos.of 6)) fun v6 => bndO (oBin .neq .none v6 (.int .u8 13) h1) fun v56 h4 =>
  ifB v56 (Out.nor (T.set (some (.bool true)) (Pos.of 61) fr) h4) (bndO (oBin .gtr .none v7 (.int .i64 4097) h4) fun v59 h7 =>
  Out.nor (T.set (some v59) (Pos.of 61) fr) h7)) (Out.nor (T.set (some (.bool false)) (Pos.of 61) fr) h1)
def Tryr16_12 (fr : F) (h : Hp) : Out :=
  gtO (T.get fr (Pos.of 0)) fun v0 => bndO (TryF22 [v0] h) fun v63 h1 =>
  Out.nor fr h1
def Tryr16_13 (fr : F) (h : Hp) : Out :=
  gtO (T.get fr (Pos.of 0)) fun v0 => bndO (oNilCheck v0 h) fun v65 h1 =>
  bndO (oFieldAddr 10 v65 h1) fun v66 h2 =>
  bndO (oStore 1 v66 (.bool true) h2) fun _u3 h3 =>
  Out.nor fr h3
def Tryr16_14 (fr : F) (h : Hp) : Out :=
  gtO (T.get fr (Pos.of 5)) fun v5 => bndO (oBuild [(.int .i64 0), .nils] [(0, 1, (.int .i64 3))] h) fun v68 h1 =>
  bndO (oBuildSlice 155 [(.int .i64 0), .nils] 1 [(0, 2, v68)] h1) fun v69 h2 =>
  bndO (oAppend 155 2 32 v5 v69 h2) fun v70 h3 =>
  Out.nor (T.set (some v70) (Pos.of 5) fr) h3
def Tryr16_19 (fr : F) (h : Hp) : Out :=
  gtO (T.get fr (Pos.of 5)) fun v5 => Out.nor (T.set (some v5) (Pos.of 4) fr) h
def Tryb16_4 : F → Hp → Out := (seqO (seqO Tryr16_4 (cndX (.tmp 12) Out.nor (Out.ex 0))) (blkO 1 (seqO (seqO Tryr16_5 (cndX (.tmp 23) (seqO Tryr16_6 (Out.ex 1)) Out.nor)) (seqO Tryr16_7 (seqO Tryr16_8 (blkO 2 (seqO Tryr16_15 (cndX (.tmp 71) Tryr16_16 (seqO Tryr16_17 (cndX (.tmp 81) Tryr16_18 (seqO Tryr16_9 (seqO Tryr16_10 (seqO Tryr16_11 (cndX (.tmp 61) (seqO Tryr16_12 (seqO Tryr16_13 Tryr16_14)) Out.nor))))))))))))))
def Tryd16 : F → Hp → Out := (seqO Tryr16_0 (seqO (seqO Tryr16_1 (cndX (.tmp 9) (seqO Tryr16_2 Out.ret) Out.nor)) (seqO Tryr16_3 (seqO (blkO 0 (loopO Tryb16_4 lf)) (seqO Tryr16_19 Out.ret)))))
def Trye16 : FuncId → Option Fun := fun f => match Nat.beq f 154 with | true => some TryF20 | false => match Nat.beq f 155 with | true => some TryF21 | false => match Nat.beq f 156 with | true => some TryF22 | false => none
def Tryp16 : Plans := fun id => match Nat.beq id 10 with | true => some ([0, 1, 3, 7, 0, 16, 48, 112, 240, 511, 1023], [(0, .pure), (1, .pure), (2, .pure), (3, .read 0), (4, .pure), (5, .pure), (6, .pure), (7, .read 0), (8, .pure), (9, .pure), (10, .pure)]) | false => none
def TryF16 : Fun := funX Tryz.prog TryG Tryk16 Trye16 Tryp16 lf Tryz.f69
theorem TryD16 : denX Tryz.prog TryG Tryz.f69.ntmps Tryk16 Trye16 Tryp16 lf (codeOf Tryz.f69) = Tryd16 := by kernel_rfl
theorem TryF16_eq (x0 x1 : V) (h : Hp) : TryF16 [x0, x1] h = outR Tryz.prog [.tmp 4] (Tryd16 (T.set (some x1) (Pos.of 1) (T.set (some x0) (Pos.of 0) T.nil)) h) := funX_eq (by kernel_rfl) TryD16 (by kernel_rfl) h
theorem Tryc16 : CallOk Tryz.prog TryG 69 TryF16 := funX_ok Trymix (callsOk_cons Tryc20 (callsOk_cons Tryc21 (callsOk_cons Tryc22 callsOk_0))) Tryz.func69 (by kernel_rfl)
def Tryk13 : Nat → Bool := fun t => memN t [0, 2]
def Trye13 : FuncId → Option Fun := fun f => none
def Tryp13 : Plans := fun id => none
def TryF13 : Fun := funX Tryz.prog TryG Tryk13 Trye13 Tryp13 lf Tryz.f29
theorem Tryc13 : CallOk Tryz.prog TryG 29 TryF13 := funX_ok Trymix callsOk_0 Tryz.func29 (by kernel_rfl)
end Go.Proofs.Im
