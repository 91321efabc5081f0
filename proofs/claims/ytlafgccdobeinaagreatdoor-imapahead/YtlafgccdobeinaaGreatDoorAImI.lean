/- Part of the value machine, or of a walk by it: lemmas that the claim's last text uses. No conditions. -/
import Derived.Test.YtlafgccdobeinaaGreatDoorAImG
import Derived.Test.YtlafgccdobeinaaGreatDoorAImH
import Derived.Test.YtlafgccdobeinaaGreatDoorAVmO
set_option linter.unusedVariables false
set_option linter.unusedSimpArgs false
set_option linter.unnecessarySimpa false
noncomputable section
namespace Go.Proofs.Im
open Go Go.Proofs Go.Vm
set_option linter.unusedVariables false
set_option maxRecDepth 100000
set_option maxHeartbeats 4000000
abbrev ImF40 : Fun := TryF13
theorem Imc40 : CallOk Tryz.prog TryG 44 ImF40 := Tryc13
abbrev ImF41 : Fun := TryF16
theorem Imc41 : CallOk Tryz.prog TryG 45 ImF41 := Tryc16
def Imk10 : Nat → Bool := fun t => memN t [0, 1, 2, 6, 7, 8, 9, 10, 11, 19, 36]
def Imr10_0 (fr : F) (h : Hp) : Out :=
  Out.nor (T.set (some (.str [])) (Pos.of 6) fr) h
def Imr10_1 (fr : F) (h : Hp) : Out :=
  bndO (ImF40 [(.int .i64 4000)] h) fun v12 h0 =>
  gtO (T.get fr (Pos.of 2)) fun v2 => bndO (oStrBytes v2 h0) fun v14 h2 =>
  bndO (ImF41 [v12, v14] h2) fun v15 h3 =>
  Out.nor (T.set (some v15) (Pos.of 7) fr) h3
def Imr10_2 (fr : F) (h : Hp) : Out :=
  Out.nor (T.set (some (.str [])) (Pos.of 8) fr) h
def Imr10_3 (fr : F) (h : Hp) : Out :=
  Out.nor (T.set (some (.int .i64 0)) (Pos.of 9) fr) h
def Imr10_4 (fr : F) (h : Hp) : Out :=
  gtO (T.get fr (Pos.of 9)) fun v9 => gtO (T.get fr (Pos.of 7)) fun v7 => bndO (oLenK 2 v7 h) fun v18 h2 =>
  bndO (oBin .lss .none v9 v18 h2) fun v19 h3 =>
  Out.nor (T.set (some v19) (Pos.of 19) fr) h3
def Imr10_6 (fr : F) (h : Hp) : Out :=
  gtO (T.get fr (Pos.of 0)) fun v0 => gtO (T.get fr (Pos.of 1)) fun v1 => gtO (T.get fr (Pos.of 7)) fun v7 => gtO (T.get fr (Pos.of 9)) fun v9 => bndO (oIdxS 2 v7 v9 h) fun v27 h4 =>
  bndO (oLoadN 2 v27 h4) fun v28 h5 =>
  bndO (ImF42 [v0, v1, (.int .i64 0), v28] h5) fun v29 h6 =>
  bndO (oExtract 0 v29 h6) fun v30 h8 =>
  bndO (oExtract 1 v29 h8) fun v31 h9 =>
  Out.nor (T.set (some v31) (Pos.of 11) (T.set (some v30) (Pos.of 10) fr)) h9
def Imr10_7 (fr : F) (h : Hp) : Out :=
  gtO (T.get fr (Pos.of 8)) fun v8 => gtO (T.get fr (Pos.of 10)) fun v10 => bndO (oBin .add .none v8 v10 h) fun v34 h2 =>
  Out.nor (T.set (some v34) (Pos.of 8) fr) h2
def Imr10_8 (fr : F) (h : Hp) : Out :=
  gtO (T.get fr (Pos.of 11)) fun v11 => bndO (oUn .not v11 h) fun v36 h1 =>
  Out.nor (T.set (some v36) (Pos.of 36) fr) h1
def Imr10_5 (fr : F) (h : Hp) : Out :=
  gtO (T.get fr (Pos.of 9)) fun v9 => bndO (oBin .add .none v9 (.int .i64 1) h) fun v21 h1 =>
  Out.nor (T.set (some v21) (Pos.of 9) fr) h1
def Imr10_9 (fr : F) (h : Hp) : Out :=
  gtO (T.get fr (Pos.of 8)) fun v8 => Out.nor (T.set (some v8) (Pos.of 6) fr) h
def Imb10_4 : F → Hp → Out := (seqO (seqO Imr10_4 (cndX (.tmp 19) Out.nor (Out.ex 0))) (seqO (blkO 1 (seqO Imr10_6 (seqO Imr10_7 (seqO Imr10_8 (cndX (.tmp 36) (Out.ex 0) Out.nor))))) Imr10_5))
def Imd10 : F → Hp → Out := (seqO Imr10_0 (seqO Imr10_1 (seqO Imr10_2 (seqO (seqO Imr10_3 (blkO 0 (loopO Imb10_4 lf))) (seqO Imr10_9 Out.ret)))))
def Ime10 : FuncId → Option Fun := fun f => match Nat.beq f 44 with | true => some ImF40 | false => match Nat.beq f 45 with | true => some ImF41 | false => match Nat.beq f 46 with | true => some ImF42 | false => none
def Imp10 : Plans := fun id => none
def ImF10 : Fun := funX Tryz.prog TryG Imk10 Ime10 Imp10 lf Tryz.f11
theorem ImD10 : denX Tryz.prog TryG Tryz.f11.ntmps Imk10 Ime10 Imp10 lf (codeOf Tryz.f11) = Imd10 := by kernel_rfl
theorem ImF10_eq (x0 x1 x2 : V) (h : Hp) : ImF10 [x0, x1, x2] h = outR Tryz.prog [.tmp 6] (Imd10 (T.set (some x2) (Pos.of 2) (T.set (some x1) (Pos.of 1) (T.set (some x0) (Pos.of 0) T.nil))) h) := funX_eq (by kernel_rfl) ImD10 (by kernel_rfl) h
theorem Imc10 : CallOk Tryz.prog TryG 11 ImF10 := funX_ok Trymix (callsOk_cons Imc40 (callsOk_cons Imc41 (callsOk_cons Imc42 callsOk_0))) Tryz.func11 (by kernel_rfl)
def ImF115 : Fun := atomLoad .i64
theorem Imc115 : CallOk Tryz.prog TryG 120 ImF115 := atomLoad_ok Tryz.func120 (by kernel_rfl) (by kernel_rfl) (by kernel_rfl) .i64 (by kernel_rfl)
def Imk37 : Nat → Bool := fun t => memN t [0, 2]
def Imr37_0 (fr : F) (h : Hp) : Out :=
  Out.nor (T.set (some (.int .i64 0)) (Pos.of 2) fr) h
def Imr37_1 (fr : F) (h : Hp) : Out :=
  gtO (T.get fr (Pos.of 0)) fun v0 => bndO (oNilCheck v0 h) fun v4 h1 =>
  bndO (oFieldAddr 0 v4 h1) fun v5 h2 =>
  bndO (ImF115 [v5] h2) fun v6 h3 =>
  Out.nor (T.set (some v6) (Pos.of 2) fr) h3
def Imd37 : F → Hp → Out := (seqO Imr37_0 (seqO Imr37_1 Out.ret))
def Ime37 : FuncId → Option Fun := fun f => match Nat.beq f 120 with | true => some ImF115 | false => none
def Imp37 : Plans := fun id => none
def ImF37 : Fun := funX Tryz.prog TryG Imk37 Ime37 Imp37 lf Tryz.f41
theorem ImD37 : denX Tryz.prog TryG Tryz.f41.ntmps Imk37 Ime37 Imp37 lf (codeOf Tryz.f41) = Imd37 := by kernel_rfl
theorem ImF37_eq (x0 : V) (h : Hp) : ImF37 [x0] h = outR Tryz.prog [.tmp 2] (Imd37 (T.set (some x0) (Pos.of 0) T.nil) h) := funX_eq (by kernel_rfl) ImD37 (by kernel_rfl) h
theorem Imc37 : CallOk Tryz.prog TryG 41 ImF37 := funX_ok Trymix (callsOk_cons Imc115 callsOk_0) Tryz.func41 (by kernel_rfl)
def Imk8 : Nat → Bool := fun t => memN t [0, 2, 4]
def Imr8_0 (fr : F) (h : Hp) : Out :=
  Out.nor (T.set (some (.int .i64 0)) (Pos.of 2) fr) h
def Imr8_1 (fr : F) (h : Hp) : Out :=
  gtO (T.get fr (Pos.of 0)) fun v0 => bndO (oBin .eql (.ptr 16) v0 .nilp h) fun v4 h1 =>
  Out.nor (T.set (some v4) (Pos.of 4) fr) h1
def Imr8_2 (fr : F) (h : Hp) : Out :=
  Out.nor (T.set (some (.int .i64 0)) (Pos.of 2) fr) h
def Imr8_3 (fr : F) (h : Hp) : Out :=
  gtO (T.get fr (Pos.of 0)) fun v0 => bndO (oNilCheck v0 h) fun v6 h1 =>
  bndO (oFieldAddr 9 v6 h1) fun v7 h2 =>
  bndO (ImF37 [v7] h2) fun v8 h3 =>
  Out.nor (T.set (some v8) (Pos.of 2) fr) h3
def Imd8 : F → Hp → Out := (seqO Imr8_0 (seqO (seqO Imr8_1 (cndX (.tmp 4) (seqO Imr8_2 Out.ret) Out.nor)) (seqO Imr8_3 Out.ret)))
def Ime8 : FuncId → Option Fun := fun f => match Nat.beq f 41 with | true => some ImF37 | false => none
def Imp8 : Plans := fun id => none
def ImF8 : Fun := funX Tryz.prog TryG Imk8 Ime8 Imp8 lf Tryz.f9
theorem ImD8 : denX Tryz.prog TryG Tryz.f9.ntmps Imk8 Ime8 Imp8 lf (codeOf Tryz.f9) = Imd8 := by kernel_rfl
theorem ImF8_eq (x0 : V) (h : Hp) : ImF8 [x0] h = outR Tryz.prog [.tmp 2] (Imd8 (T.set (some x0) (Pos.of 0) T.nil) h) := funX_eq (by kernel_rfl) ImD8 (by kernel_rfl) h
theorem Imc8 : CallOk Tryz.prog TryG 9 ImF8 := funX_ok Trymix (callsOk_cons Imc37 callsOk_0) Tryz.func9 (by kernel_rfl)
def Imk39 : Nat → Bool := fun t => memN t [0, 2, 3, 4, 10, 24]
def Imr39_0 (fr : F) (h : Hp) : Out :=
  Out.nor (T.set (some (.str [])) (Pos.of 2) fr) h
def Imr39_1 (fr : F) (h : Hp) : Out :=
  gtO (T.get fr (Pos.of 0)) fun v0 => bndO (oStrBytes v0 h) fun v6 h1 =>
  Out.nor (T.set (some v6) (Pos.of 3) fr) h1
def Imr39_2 (fr : F) (h : Hp) : Out :=
  Out.nor (T.set (some (.int .i64 0)) (Pos.of 4) fr) h
def Imr39_3 (fr : F) (h : Hp) : Out :=
  gtO (T.get fr (Pos.of 4)) fun v4 => gtO (T.get fr (Pos.of 3)) fun v3 => bndO (oLenK 2 v3 h) fun v9 h2 =>
  bndO (oBin .lss .none v4 v9 h2) fun v10 h3 =>
  Out.nor (T.set (some v10) (Pos.of 10) fr) h3
def Imr39_5 (fr : F) (h : Hp) : Out :=
  gtO (T.get fr (Pos.of 3)) fun v3 => gtO (T.get fr (Pos.of 4)) fun v4 => bndO (oIdxS 1 v3 v4 h) fun v15 h2 =>
  bndO (oLoad1 v15 h2) fun v16 h3 =>
  bndO (oBin .geq .none v16 (.int .u8 65) h3) fun v17 h4 =>
  ifB v17 (bndO (oIdxS 1 v3 v4 h4) fun v21 h8 =>
  bndO (oLoad1 v21 h8) fun v22 h9 =>
  bndO (oBin .leq .none v22 (.int .u8 90) h9) fun v23 h10 =>
  Out.nor (T.set (some v23) (Pos.of 24) fr) h10) (Out.nor (T.set (some (.bool false)) (Pos.of 24) fr) h4)
def Imr39_6 (fr : F) (h : Hp) : Out :=
  gtO (T.get fr (Pos.of 3)) fun v3 => gtO (T.get fr (Pos.of 4)) fun v4 => bndO (oIdxS 1 v3 v4 h) fun v29 h4 =>
  bndO (oLoad1 v29 h4) fun v30 h5 =>
  bndO (oBin .add .none v30 (.int .u8 32) h5) fun v31 h6 =>
  bndO (oIdxS 1 v3 v4 h6) fun v32 h7 =>
  bndO (oStore 1 v32 v31 h7) fun _u8 h8 =>
  Out.nor fr h8
def Imr39_4 (fr : F) (h : Hp) : Out :=
  gtO (T.get fr (Pos.of 4)) fun v4 => bndO (oBin .add .none v4 (.int .i64 1) h) fun v12 h1 =>
  Out.nor (T.set (some v12) (Pos.of 4) fr) h1
def Imr39_7 (fr : F) (h : Hp) : Out :=
  gtO (T.get fr (Pos.of 3)) fun v3 => bndO (oBytesStr v3 h) fun v34 h1 =>
  Out.nor (T.set (some v34) (Pos.of 2) fr) h1
def Imb39_3 : F → Hp → Out := (seqO (seqO Imr39_3 (cndX (.tmp 10) Out.nor (Out.ex 0))) (seqO (blkO 1 (seqO Imr39_5 (cndX (.tmp 24) Imr39_6 Out.nor))) Imr39_4))
def Imd39 : F → Hp → Out := (seqO Imr39_0 (seqO Imr39_1 (seqO (seqO Imr39_2 (blkO 0 (loopO Imb39_3 lf))) (seqO Imr39_7 Out.ret))))
def Ime39 : FuncId → Option Fun := fun f => none
def Imp39 : Plans := fun id => none
def ImF39 : Fun := funX Tryz.prog TryG Imk39 Ime39 Imp39 lf Tryz.f43
theorem ImD39 : denX Tryz.prog TryG Tryz.f43.ntmps Imk39 Ime39 Imp39 lf (codeOf Tryz.f43) = Imd39 := by kernel_rfl
theorem ImF39_eq (x0 : V) (h : Hp) : ImF39 [x0] h = outR Tryz.prog [.tmp 2] (Imd39 (T.set (some x0) (Pos.of 0) T.nil) h) := funX_eq (by kernel_rfl) ImD39 (by kernel_rfl) h
theorem Imc39 : CallOk Tryz.prog TryG 43 ImF39 := funX_ok Trymix callsOk_0 Tryz.func43 (by kernel_rfl)
def Imk38 : Nat → Bool := fun t => memN t [0, 1, 2, 6, 7, 15, 26]
def Imr38_0 (fr : F) (h : Hp) : Out :=
  Out.nor (T.set (some (.int .i64 0)) (Pos.of 6) fr) h
def Imr38_1 (fr : F) (h : Hp) : Out :=
  gtO (T.get fr (Pos.of 2)) fun v2 => Out.nor (T.set (some v2) (Pos.of 7) fr) h
def Imr38_2 (fr : F) (h : Hp) : Out :=
  gtO (T.get fr (Pos.of 7)) fun v7 => gtO (T.get fr (Pos.of 1)) fun v1 => bndO (oLenK 1 v1 h) fun v11 h2 =>
  bndO (oBin .add .none v7 v11 h2) fun v12 h3 =>
  gtO (T.get fr (Pos.of 0)) fun v0 => bndO (oLenK 1 v0 h3) fun v14 h5 =>
  bndO (oBin .leq .none v12 v14 h5) fun v15 h6 =>
  Out.nor (T.set (some v15) (Pos.of 15) fr) h6
def Imr38_4 (fr : F) (h : Hp) : Out :=
  gtO (T.get fr (Pos.of 0)) fun v0 => gtO (T.get fr (Pos.of 7)) fun v7 => gtO (T.get fr (Pos.of 1)) fun v1 => bndO (oLenK 1 v1 h) fun v22 h4 =>
  bndO (oBin .add .none v7 v22 h4) fun v23 h5 =>
  bndO (oSliceStr v0 (some v7) (some v23) h5) fun v24 h6 =>
  bndO (oBin .eql .none v24 v1 h6) fun v26 h8 =>
  Out.nor (T.set (some v26) (Pos.of 26) fr) h8
def Imr38_5 (fr : F) (h : Hp) : Out :=
  gtO (T.get fr (Pos.of 7)) fun v7 => Out.nor (T.set (some v7) (Pos.of 6) fr) h
def Imr38_3 (fr : F) (h : Hp) : Out :=
  gtO (T.get fr (Pos.of 7)) fun v7 => bndO (oBin .add .none v7 (.int .i64 1) h) fun v17 h1 =>
  Out.nor (T.set (some v17) (Pos.of 7) fr) h1
def Imr38_6 (fr : F) (h : Hp) : Out :=
  Out.nor (T.set (some (.int .i64 (-1))) (Pos.of 6) fr) h
def Imb38_2 : F → Hp → Out := (seqO (seqO Imr38_2 (cndX (.tmp 15) Out.nor (Out.ex 0))) (seqO (blkO 1 (seqO Imr38_4 (cndX (.tmp 26) (seqO Imr38_5 Out.ret) Out.nor))) Imr38_3))
def Imd38 : F → Hp → Out := (seqO Imr38_0 (seqO (seqO Imr38_1 (blkO 0 (loopO Imb38_2 lf))) (seqO Imr38_6 Out.ret)))
def Ime38 : FuncId → Option Fun := fun f => none
def Imp38 : Plans := fun id => none
def ImF38 : Fun := funX Tryz.prog TryG Imk38 Ime38 Imp38 lf Tryz.f42
theorem ImD38 : denX Tryz.prog TryG Tryz.f42.ntmps Imk38 Ime38 Imp38 lf (codeOf Tryz.f42) = Imd38 := by kernel_rfl
theorem ImF38_eq (x0 x1 x2 : V) (h : Hp) : ImF38 [x0, x1, x2] h = outR Tryz.prog [.tmp 6] (Imd38 (T.set (some x2) (Pos.of 2) (T.set (some x1) (Pos.of 1) (T.set (some x0) (Pos.of 0) T.nil))) h) := funX_eq (by kernel_rfl) ImD38 (by kernel_rfl) h
theorem Imc38 : CallOk Tryz.prog TryG 42 ImF38 := funX_ok Trymix callsOk_0 Tryz.func42 (by kernel_rfl)
def Imk9 : Nat → Bool := fun t => memN t [0, 1, 4]
def Imr9_0 (fr : F) (h : Hp) : Out :=
  Out.nor (T.set (some (.bool false)) (Pos.of 4) fr) h
def Imr9_1 (fr : F) (h : Hp) : Out :=
  gtO (T.get fr (Pos.of 0)) fun v0 => bndO (ImF39 [v0] h) fun v6 h1 =>
  gtO (T.get fr (Pos.of 1)) fun v1 => bndO (ImF39 [v1] h1) fun v8 h3 =>
  bndO (ImF38 [v6, v8, (.int .i64 0)] h3) fun v9 h4 =>
  bndO (oBin .geq .none v9 (.int .i64 0) h4) fun v10 h5 =>
  Out.nor (T.set (some v10) (Pos.of 4) fr) h5
def Imd9 : F → Hp → Out := (seqO Imr9_0 (seqO Imr9_1 Out.ret))
def Ime9 : FuncId → Option Fun := fun f => match Nat.beq f 43 with | true => some ImF39 | false => match Nat.beq f 42 with | true => some ImF38 | false => none
def Imp9 : Plans := fun id => none
def ImF9 : Fun := funX Tryz.prog TryG Imk9 Ime9 Imp9 lf Tryz.f10
theorem ImD9 : denX Tryz.prog TryG Tryz.f10.ntmps Imk9 Ime9 Imp9 lf (codeOf Tryz.f10) = Imd9 := by kernel_rfl
theorem ImF9_eq (x0 x1 : V) (h : Hp) : ImF9 [x0, x1] h = outR Tryz.prog [.tmp 4] (Imd9 (T.set (some x1) (Pos.of 1) (T.set (some x0) (Pos.of 0) T.nil)) h) := funX_eq (by kernel_rfl) ImD9 (by kernel_rfl) h
theorem Imc9 : CallOk Tryz.prog TryG 10 ImF9 := funX_ok Trymix (callsOk_cons Imc39 (callsOk_cons Imc38 callsOk_0)) Tryz.func10 (by kernel_rfl)
end Go.Proofs.Im

noncomputable section
namespace Go.Ln
open Go Go.Vm Go.Proofs.Im
def allM (inn : Bool) : List Ln.Got → Option (List Nat)
  | [] => some []
  | g :: gs => (match doM inn g with
    | none => none
    | some (t, on) => (match on with
      | true => (match allM inn gs with | some u => some (t ++ u) | none => none)
      | false => some t))
theorem feedM_one (most : Int) (r : Rd) (c : Nat) : (feedM most r c).2.length ≤ 1 := by
  have he : ∀ r, (endM most r).2.length ≤ 1 := fun r => by
    unfold endM
    repeat' (first | split | simp)
  unfold feedM
  repeat' (first | exact he _ | split | simp)
theorem feedsM_len (most : Int) : ∀ (b : List Nat) (r : Rd), (feedsM most r b).2.length ≤ b.length
  | [], r => by simp [feedsM]
  | c :: b, r => by
    unfold feedsM
    have := feedM_one most r c
    have := feedsM_len most b (feedM most r c).1
    simp only [List.length_append, List.length_cons]
    omega
theorem tellM_len {an : V} {tag t u : List Nat} {on : Bool} (h : AnOk an) (ht : t.length ≤ 100) (e : tellM tag t an = (u, on)) : u.length ≤ tag.length + 300 := by
  rcases h with ⟨k, tx, hk, hl, rfl⟩ | ⟨x, rfl⟩
  · rcases hk with rfl | rfl
    · have : u = tag ++ [32, 78, 79, 32] ++ tx ++ [13, 10] := (congrArg Prod.fst e).symm
      rw [this]; simp <;> omega
    · have : u = tag ++ [32, 66, 65, 68, 32] ++ tx ++ [13, 10] := (congrArg Prod.fst e).symm
      rw [this]; simp <;> omega
  · have : u = t ++ (tag ++ [32, 79, 75, 32, 100, 111, 110, 101, 13, 10]) := (congrArg Prod.fst e).symm
    rw [this]; simp <;> omega
theorem doM_len {inn : Bool} {g : Ln.Got} {t : List Nat} {on : Bool} {s : List Nat} (hw : WsOk s g.words) (e : doM inn g = some (t, on)) : t.length ≤ s.length + 300 := by
  unfold doM at e
  split at e
  · cases e; simp <;> omega
  · split at e
    · split at e
      · rename_i a b ha hb
        split at e
        · split at e
          · rename_i an tt hr
            obtain ⟨h1, h2, -⟩ := runM_ok hr
            have h3 := (hw 0 a ha).2.length_le
            have := tellM_len h1 h2 (Option.some.inj e)
            omega
          · cases e
        · cases e; simp <;> omega
      · cases e; simp <;> omega
    · cases e; simp <;> omega
end Go.Ln
namespace Go.Proofs.Im
open Go Go.Proofs Go.Vm Go.Ln
set_option linter.unusedVariables false
set_option maxRecDepth 100000
set_option linter.unusedSimpArgs false
theorem Told.atN {P : Pos → Prop} {h : Hp} {v : V} {gs : List Ln.Got} (t : Told P h v gs) {k : Nat} {g : Ln.Got} (e : gs[k]? = some g) :
    ∃ j q vw, (∀ h', oIdxS 2 v (.int .i64 (k : Int)) h' = .ok (.ptr j q) h') ∧ oLoadN 2 (.ptr j q) h = .ok (.agg (.cons (.int .i64 g.kind) (.cons vw .nil))) h ∧ WRow P h vw g.words := by
  obtain ⟨cs, o, i, w⟩ := t
  have hk : k < gs.length := (List.getElem?_eq_some_iff.1 e).1
  obtain ⟨c0, vw, c1, w1⟩ := w.get e
  obtain ⟨j, q, e1, -, -, e2⟩ := o.sl.atN hk
  refine ⟨j, q, vw, e1, ?_, w1⟩
  rw [e2 h rfl]
  obtain ⟨l0, x0⟩ := List.getElem?_eq_some_iff.1 c0
  obtain ⟨l1, x1⟩ := List.getElem?_eq_some_iff.1 c1
  rw [List.drop_eq_getElem_cons l0, List.drop_eq_getElem_cons l1, x0, x1]
  rfl
theorem all_ok {h : Hp} {pc im ps : Pos} {qs : Nat} {inn : Bool} {s t : List Nat} (cn : Cn h pc im inn) (hl : s.length ≤ 1000000) (h256 : ∀ c ∈ s, c < 256) (e : allM inn (feedsM 4000 {} s).2 = some t) :
    ∃ r h', ImF10 [.ptr pc 0, .ptr ps qs, .str s] h = .ok r h' ∧ r = .str t ∧ Cn h' pc im inn ∧ Ch (fun j => j = pc) h h' := by
  have hcl : pc.nat < h.next.nat := by obtain ⟨-, -, -, -, -, a, -⟩ := cn; exact a
  have him : im.nat < h.next.nat := by obtain ⟨-, -, -, -, -, -, a⟩ := cn; exact a
  obtain ⟨h1, e1, a1, c1, n1⟩ := new_ok 4000 h
  obtain ⟨v, h2, vt, vl, vn, vq, e2, a2, p2, told⟩ := feed_s (most := max 4000 1) (B := 0) (by omega) a1 (RdOk.fresh (by omega) (by omega) (Nat.zero_le _)) (s := s) (by omega) h256
  rw [show max (4000 : Int) 1 = 4000 from rfl] at told
  have c02 : Ch (fun _ => False) h h2 := c1.trans p2.ch fun j hj o => by
    rcases o with rfl | o | o | o | o
    · omega
    all_goals cases o
  have cn2 := cn.ch c02 (fun q => q) fun q => q
  have hg := told_of 4000 s
  generalize hgs : (feedsM 4000 {} s).2 = gs at *
  have hgl : gs.length ≤ s.length := by rw [← hgs]; exact feedsM_len _ _ _
  have told2 : Told (fun j => h.next.nat ≤ j.nat ∧ j.nat < h2.next.nat) h2 v gs := told.ch (Ch.refl (fun _ => False) h2) fun j hj q => ⟨⟨by have := q.1; omega, hj⟩, fun q => q⟩
  rw [ImF10_eq]
  show Tells Tryz.prog _ (fun r h' => r = .str t ∧ Cn h' pc im inn ∧ Ch (fun j => j = pc) h h') _
  have B1 : oStrBytes (.str s) h1 = .ok (.slice h1.next 0 s.length (.un 1)) (h1.new (.bytes (bys s))) := oStrBytes_ok (by omega)
  simp (disch := omega) only [vmL, Nat.reduceEqDiff, ↓reduceIte, Imd10, Imr10_0, Imr10_1, Imr10_2, Imr10_3, e1, B1, e2]
  refine Oc.then (loop_rule (n := gs.length) (fun m fr g => ∃ (k : Nat) (acc u : List Nat), fr.get (Pos.of 0) = some (.ptr pc 0) ∧ fr.get (Pos.of 1) = some (.ptr ps qs) ∧ fr.get (Pos.of 7) = some v ∧ fr.get (Pos.of 8) = some (.str acc) ∧ fr.get (Pos.of 9) = some (.int .i64 (k : Int)) ∧
      k + m = gs.length ∧ allM inn (gs.drop k) = some u ∧ acc ++ u = t ∧ acc.length ≤ k * 1000300 ∧ Told (fun j => h.next.nat ≤ j.nat ∧ j.nat < h2.next.nat) g v gs ∧ Cn g pc im inn ∧ Ch (fun j => j = pc) h g ∧ h2.next.nat ≤ g.next.nat)
    (A := fun fr g => fr.get (Pos.of 8) = some (.str t) ∧ Cn g pc im inn ∧ Ch (fun j => j = pc) h g) (B := fun _ _ => False) (by rw [lf_eq]; omega) ?_ ?_) ?_ ?_
  · exact ⟨0, [], t, by simp only [vmL, reduceCtorEq, ↓reduceIte], by simp only [vmL, Nat.reduceEqDiff, ↓reduceIte], by simp only [vmL, Nat.reduceEqDiff, ↓reduceIte], by simp only [vmL, Nat.reduceEqDiff, ↓reduceIte], by simp only [vmL, ↓reduceIte]; rfl, by omega, e, rfl, by simp, told2, cn2, c02.mono (fun _ _ q => q.elim), Nat.le_refl _⟩
  · rintro m fr g ⟨k, acc, u, f0, f1, f7, f8, f9, hk, eu, hu, ha, tg, cg, chg, hng⟩
    by_cases hz : m = 0
    · have hkk : gs.length ≤ k := by omega
      rw [List.drop_eq_nil_of_le hkk] at eu
      cases eu
      rw [List.append_nil] at hu
      subst hu
      simp (disch := omega) only [vmL, ↓reduceIte, Imb10_4, Imr10_4, f7, f9, Told.len tg]
      exact ⟨rfl, by simp only [vmL, Nat.reduceEqDiff, ↓reduceIte, f8], cg, chg⟩
    · have hlt : k < gs.length := by omega
      have hge : gs[k]? = some gs[k] := List.getElem?_eq_getElem hlt
      have hmem : gs[k] ∈ gs := List.getElem_mem _
      rw [List.drop_eq_getElem_cons hlt] at eu
      generalize gs[k] = gk at hge hmem eu
      obtain ⟨j, q, vw, i1, i2, w⟩ := tg.atN hge
      unfold allM at eu
      cases hd : doM inn gk with
      | none => rw [hd] at eu; cases eu
      | some p =>
        obtain ⟨t1, on⟩ := p
        rw [hd] at eu
        have hwk := hg gk hmem
        have ht1 := doM_len hwk hd
        obtain ⟨r3, h3, e3, rfl, cn3, c3⟩ := do_ok (ps := ps) (qs := qs) (now := 0) cg w (fun j q => ⟨by omega, fun e => by have := q.1; rw [e] at this; omega⟩) (fun m x hx => ⟨fun c hc => h256 c ((hwk m x hx).2.subset hc), by have := (hwk m x hx).2.length_le; omega⟩) hd
        have tg3 : Told (fun j => h.next.nat ≤ j.nat ∧ j.nat < h2.next.nat) h3 v gs := tg.ch c3 fun j _ q => ⟨q, fun e => by have := q.1; rw [e] at this; omega⟩
        have ch3 := chg.trans c3 fun _ _ q => q
        have n3 := c3.next
        have hb : k * 1000300 ≤ 1000000 * 1000300 := Nat.mul_le_mul_right _ (by omega)
        have S1 : ∀ h, oBin .add .none (.str acc) (.str t1) h = .ok (.str (acc ++ t1)) h := fun h => oBin_str_add (by omega)
        cases on with
        | true =>
          simp only [] at eu
          cases hr : allM inn (gs.drop (k + 1)) with
          | none => rw [hr] at eu; cases eu
          | some u' =>
            rw [hr] at eu
            cases eu
            simp (disch := omega) only [vmL, Nat.reduceEqDiff, reduceCtorEq, ↓reduceIte, Imb10_4, Imr10_4, Imr10_5, Imr10_6, Imr10_7, Imr10_8, f0, f1, f7, f8, f9, Told.len tg, i1, i2, e3, S1]
            exact ⟨m - 1, by omega, k + 1, acc ++ t1, u', by simp only [vmL, reduceCtorEq, ↓reduceIte, f0], by simp only [vmL, Nat.reduceEqDiff, ↓reduceIte, f1], by simp only [vmL, Nat.reduceEqDiff, ↓reduceIte, f7], by simp only [vmL, Nat.reduceEqDiff, ↓reduceIte], by simp only [vmL, ↓reduceIte]; rfl, by omega, hr, by rw [List.append_assoc]; exact hu, by rw [List.length_append]; omega, tg3, cn3, ch3, by omega⟩
        | false =>
          cases eu
          simp (disch := omega) only [vmL, Nat.reduceEqDiff, reduceCtorEq, ↓reduceIte, Imb10_4, Imr10_4, Imr10_6, Imr10_7, Imr10_8, f0, f1, f7, f8, f9, Told.len tg, i1, i2, e3, S1]
          exact ⟨rfl, by simp only [vmL, Nat.reduceEqDiff, ↓reduceIte, hu], cn3, ch3⟩
  · rintro fr g ⟨f8, cg, chg⟩
    simp (disch := omega) only [vmL, Imr10_9, f8]
    exact Tells.ret (by simp only [resK, vmL, ↓reduceIte, tupR]) ⟨rfl, cg, chg⟩
  · intro fr g q; exact q.elim
end Go.Proofs.Im
