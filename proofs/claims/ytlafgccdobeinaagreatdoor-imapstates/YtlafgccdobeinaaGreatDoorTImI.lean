/- Part of the value machine, or of a walk by it: lemmas that the claim's last text uses. No conditions. -/
import Derived.Test.YtlafgccdobeinaaGreatDoorTImG
import Derived.Test.YtlafgccdobeinaaGreatDoorTImH
import Derived.Test.YtlafgccdobeinaaGreatDoorTVmO
set_option linter.unusedVariables false
set_option linter.unusedSimpArgs false
set_option linter.unnecessarySimpa false
noncomputable section
namespace Go.Proofs.Im
open Go Go.Proofs Go.Vm
set_option linter.unusedVariables false
set_option maxRecDepth 100000
set_option maxHeartbeats 4000000
abbrev ImF40 : Fun := TryF13
theorem Imc40 : CallOk Tryz.prog TryG 44 ImF40 := Tryc13
abbrev ImF41 : Fun := TryF16
theorem Imc41 : CallOk Tryz.prog TryG 45 ImF41 := Tryc16
def Imk10 : Nat → Bool := fun t => memN t [0, 1, 2, 6, 7, 8, 9, 10, 11, 19, 36]
def Imr10_0 (fr : F) (h : Hp) : Out :=
  Out.nor (T.set (some (.str [])) (Pos.of 6) fr) h
def Imr10_1 (fr : F) (h : Hp) : Out :=
  bndO (ImF40 [(.int .i64 4000)] h) fun v12 h0 =>
  gtO (T.get fr (Pos.of 2)) fun v2 => bndO (oStrBytes v2 h0) fun v14 h2 =>
  bndO (ImF41 [v12, v14] h2) fun v15 h3 =>
  Out.nor (T.set (some v15) (Pos.of 7) fr) h3
def Imr10_2 (fr : F) (h : Hp) : Out :=
  Out.nor (T.set (some (.str [])) (Pos.of 8) fr) h
def Imr10_3 (fr : F) (h : Hp) : Out :=
  Out.nor (T.set (some (.int .i64 0)) (Pos.of 9) fr) h
def Imr10_4 (fr : F) (h : Hp) : Out :=
  gtO (T.get fr (Pos.of 9)) fun v9 => gtO (T.get fr (Pos.of 7)) fun v7 => bndO (oLenK 2 v7 h) fun v18 h2 =>
  bndO (oBin .lss .none v9 v18 h2) fun v19 h3 =>
  Out.nor (T.set (some v19) (Pos.of 19) fr) h3
def Imr10_6 (fr : F) (h : Hp) : Out :=
  gtO (T.get fr (Pos.of 0)) fun v0 => gtO (T.get fr (Pos.of 1)) fun v1 => gtO (T.get fr (Pos.of 7)) fun v7 => gtO (T.get fr (Pos.of 9)) fun v9 => bndO (oIdxS 2 v7 v9 h) fun v27 h4 =>
  bndO (oLoadN 2 v27 h4) fun v28 h5 =>
  bndO (ImF42 [v0, v1, (.int .i64 0), v28] h5) fun v29 h6 =>
  bndO (oExtract 0 v29 h6) fun v30 h8 =>
  bndO (oExtract 1 v29 h8) fun v31 h9 =>
  Out.nor (T.set (some v31) (Pos.of 11) (T.set (some v30) (Pos.of 10) fr)) h9
def Imr10_7 (fr : F) (h : Hp) : Out :=
  gtO (T.get fr (Pos.of 8)) fun v8 => gtO (T.get fr (Pos.of 10)) fun v10 => bndO (oBin .add .none v8 v10 h) fun v34 h2 =>
  Out.nor (T.set (some v34) (Pos.of 8) fr) h2
def Imr10_8 (fr : F) (h : Hp) : Out :=
  gtO (T.get fr (Pos.of 11)) fun v11 => bndO (oUn .not v11 h) fun v36 h1 =>
  Out.nor (T.set (some v36) (Pos.of 36) fr) h1
def Imr10_5 (fr : F) (h : Hp) : Out :=
  gtO (T.get fr (Pos.of 9)) fun v9 => bndO (oBin .add .none v9 (.int .i64 1) h) fun v21 h1 =>
  Out.nor (T.set (some v21) (Pos.of 9) fr) h1
def Imr10_9 (fr : F) (h : Hp) : Out :=
  gtO (T.get fr (Pos.of 8)) fun v8 => Out.nor (T.set (some v8) (Pos.of 6) fr) h
def Imb10_4 : F → Hp → Out := (seqO (seqO Imr10_4 (cndX (.tmp 19) Out.nor (Out.ex 0))) (seqO (blkO 1 (seqO Imr10_6 (seqO Imr10_7 (seqO Imr10_8 (cndX (.tmp 36) (Out.ex 0) Out.nor))))) Imr10_5))
def Imd10 : F → Hp → Out := (seqO Imr10_0 (seqO Imr10_1 (seqO Imr10_2 (seqO (seqO Imr10_3 (blkO 0 (loopO Imb10_4 lf))) (seqO Imr10_9 Out.ret)))))
def Ime10 : FuncId → Option Fun := fun f => match Nat.beq f 44 with | true => some ImF40 | false => match Nat.beq f 45 with | true => some ImF41 | false => match Nat.beq f 46 with | true => some ImF42 | false => none
def Imp10 : Plans := fun id => none
def ImF10 : Fun := funX Tryz.prog TryG Imk10 Ime10 Imp10 lf Tryz.f11
theorem ImD10 : denX Tryz.prog TryG Tryz.f11.ntmps Imk10 Ime10 Imp10 lf (codeOf Tryz.f11) = Imd10 := by kernel_rfl
theorem ImF10_eq (x0 x1 x2 : V) (h : Hp) : ImF10 [x0, x1, x2] h = outR Tryz.prog [.tmp 6] (Imd10 (T.set (some x2) (Pos.of 2) (T.set (some x1) (Pos.of 1) (T.set (some x0) (Pos.of 0) T.nil))) h) := funX_eq (by kernel_rfl) ImD10 (by kernel_rfl) h
theorem Imc10 : CallOk Tryz.prog TryG 11 ImF10 := funX_ok Trymix (callsOk_cons Imc40 (callsOk_cons Imc41 (callsOk_cons Imc42 callsOk_0))) Tryz.func11 (by kernel_rfl)
def ImF115 : Fun := atomLoad .i64
theorem Imc115 : CallOk Tryz.prog TryG 120 ImF115 := atomLoad_ok Tryz.func120 (by kernel_rfl) (by kernel_rfl) (by kernel_rfl) .i64 (by kernel_rfl)
def Imk37 : Nat → Bool := fun t => memN t [0, 2]
def Imr37_0 (fr : F) (h : Hp) : Out :=
  Out.nor (T.set (some (.int .i64 0)) (Pos.of 2) fr) h
def Imr37_1 (fr : F) (h : Hp) : Out :=
  gtO (T.get fr (Pos.of 0)) fun v0 => bndO (oNilCheck v0 h) fun v4 h1 =>
  bndO (oFieldAddr 0 v4 h1) fun v5 h2 =>
  bndO (ImF115 [v5] h2) fun v6 h3 =>
  Out.nor (T.set (some v6) (Pos.of 2) fr) h3
def Imd37 : F → Hp → Out := (seqO Imr37_0 (seqO Imr37_1 Out.ret))
def Ime37 : FuncId → Option Fun := fun f => match Nat.beq f 120 with | true => some ImF115 | false => none
def Imp37 : Plans := fun id => none
def ImF37 : Fun := funX Tryz.prog TryG Imk37 Ime37 Imp37 lf Tryz.f41
theorem ImD37 : denX Tryz.prog TryG Tryz.f41.ntmps Imk37 Ime37 Imp37 lf (codeOf Tryz.f41) = Imd37 := by kernel_rfl
theorem ImF37_eq (x0 : V) (h : Hp) : ImF37 [x0] h = outR Tryz.prog [.tmp 2] (Imd37 (T.set (some x0) (Pos.of 0) T.nil) h) := funX_eq (by kernel_rfl) ImD37 (by kernel_rfl) h
theorem Imc37 : CallOk Tryz.prog TryG 41 ImF37 := funX_ok Trymix (callsOk_cons Imc115 callsOk_0) Tryz.func41 (by kernel_rfl)
def Imk8 : Nat → Bool := fun t => memN t [0, 2, 4]
def Imr8_0 (fr : F) (h : Hp) : Out :=
  Out.nor (T.set (some (.int .i64 0)) (Pos.of 2) fr) h
def Imr8_1 (fr : F) (h : Hp) : Out :=
  gtO (T.get fr (Pos.of 0)) fun v0 => bndO (oBin .eql (.ptr 16) v0 .nilp h) fun v4 h1 =>
  Out.nor (T.set (some v4) (Pos.of 4) fr) h1
def Imr8_2 (fr : F) (h : Hp) : Out :=
  Out.nor (T.set (some (.int .i64 0)) (Pos.of 2) fr) h
def Imr8_3 (fr : F) (h : Hp) : Out :=
  gtO (T.get fr (Pos.of 0)) fun v0 => bndO (oNilCheck v0 h) fun v6 h1 =>
  bndO (oFieldAddr 9 v6 h1) fun v7 h2 =>
  bndO (ImF37 [v7] h2) fun v8 h3 =>
  Out.nor (T.set (some v8) (Pos.of 2) fr) h3
def Imd8 : F → Hp → Out := (seqO Imr8_0 (seqO (seqO Imr8_1 (cndX (.tmp 4) (seqO Imr8_2 Out.ret) Out.nor)) (seqO Imr8_3 Out.ret)))
def Ime8 : FuncId → Option Fun := fun f => match Nat.beq f 41 with | true => some ImF37 | false => none
def Imp8 : Plans := fun id => none
def ImF8 : Fun := funX Tryz.prog TryG Imk8 Ime8 Imp8 lf Tryz.f9
theorem ImD8 : denX Tryz.prog TryG Tryz.f9.ntmps Imk8 Ime8 Imp8 lf (codeOf Tryz.f9) = Imd8 := by kernel_rfl
theorem ImF8_eq (x0 : V) (h : Hp) : ImF8 [x0] h = outR Tryz.prog [.tmp 2] (Imd8 (T.set (some x0) (Pos.of 0) T.nil) h) := funX_eq (by kernel_rfl) ImD8 (by kernel_rfl) h
theorem Imc8 : CallOk Tryz.prog TryG 9 ImF8 := funX_ok Trymix (callsOk_cons Imc37 callsOk_0) Tryz.func9 (by kernel_rfl)
end Go.Proofs.Im

noncomputable section
namespace Go.Ln
open Go Go.Vm Go.Proofs.Im
theorem feedM_one (most : Int) (r : Rd) (c : Nat) : (feedM most r c).2.length ≤ 1 := by
  have he : ∀ r, (endM most r).2.length ≤ 1 := fun r => by
    unfold endM
    repeat' (first | split | simp)
  unfold feedM
  repeat' (first | exact he _ | split | simp)
theorem feedsM_len (most : Int) : ∀ (b : List Nat) (r : Rd), (feedsM most r b).2.length ≤ b.length
  | [], r => by simp [feedsM]
  | c :: b, r => by
    unfold feedsM
    have := feedM_one most r c
    have := feedsM_len most b (feedM most r c).1
    simp only [List.length_append, List.length_cons]
    omega
theorem tellM_len {an : V} {tag t u : List Nat} {on : Bool} (h : AnOk an) (ht : t.length ≤ 100) (e : tellM tag t an = (u, on)) : u.length ≤ tag.length + 300 := by
  rcases h with ⟨k, tx, hk, hl, rfl⟩ | ⟨x, rfl⟩
  · rcases hk with rfl | rfl
    · have : u = tag ++ [32, 78, 79, 32] ++ tx ++ [13, 10] := (congrArg Prod.fst e).symm
      rw [this]; simp <;> omega
    · have : u = tag ++ [32, 66, 65, 68, 32] ++ tx ++ [13, 10] := (congrArg Prod.fst e).symm
      rw [this]; simp <;> omega
  · have : u = t ++ (tag ++ [32, 79, 75, 32, 100, 111, 110, 101, 13, 10]) := (congrArg Prod.fst e).symm
    rw [this]; simp <;> omega
theorem doM_len {inn : Bool} {g : Ln.Got} {t : List Nat} {on : Bool} {s : List Nat} (hw : WsOk s g.words) (e : doM inn g = some (t, on)) : t.length ≤ s.length + 300 := by
  unfold doM at e
  split at e
  · cases e; simp <;> omega
  · split at e
    · split at e
      · rename_i a b ha hb
        split at e
        · split at e
          · rename_i an tt hr
            obtain ⟨h1, h2, -⟩ := runM_ok hr
            have h3 := (hw 0 a ha).2.length_le
            have := tellM_len h1 h2 (Option.some.inj e)
            omega
          · cases e
        · cases e; simp <;> omega
      · cases e; simp <;> omega
    · cases e; simp <;> omega
end Go.Ln
namespace Go.Proofs.Im
open Go Go.Proofs Go.Vm Go.Ln
set_option linter.unusedVariables false
set_option maxRecDepth 100000
set_option linter.unusedSimpArgs false
theorem Told.atN {P : Pos → Prop} {h : Hp} {v : V} {gs : List Ln.Got} (t : Told P h v gs) {k : Nat} {g : Ln.Got} (e : gs[k]? = some g) :
    ∃ j q vw, (∀ h', oIdxS 2 v (.int .i64 (k : Int)) h' = .ok (.ptr j q) h') ∧ oLoadN 2 (.ptr j q) h = .ok (.agg (.cons (.int .i64 g.kind) (.cons vw .nil))) h ∧ WRow P h vw g.words := by
  obtain ⟨cs, o, i, w⟩ := t
  have hk : k < gs.length := (List.getElem?_eq_some_iff.1 e).1
  obtain ⟨c0, vw, c1, w1⟩ := w.get e
  obtain ⟨j, q, e1, -, -, e2⟩ := o.sl.atN hk
  refine ⟨j, q, vw, e1, ?_, w1⟩
  rw [e2 h rfl]
  obtain ⟨l0, x0⟩ := List.getElem?_eq_some_iff.1 c0
  obtain ⟨l1, x1⟩ := List.getElem?_eq_some_iff.1 c1
  rw [List.drop_eq_getElem_cons l0, List.drop_eq_getElem_cons l1, x0, x1]
  rfl
end Go.Proofs.Im
