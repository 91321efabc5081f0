/- Part of the value machine, or of a walk by it: lemmas that the claim's last text uses. No conditions. -/
import Derived.Test.YtlcpojnlmgkkcaaGreatDoorImapAloneA
import Derived.Test.YtlcpojnlmgkkcaaGreatDoorVmE
set_option linter.unusedVariables false
set_option linter.unusedSimpArgs false
set_option linter.unnecessarySimpa false
noncomputable section
namespace Go.Proofs.YtlcpojnlmgkkcaaGreatDoor
open Go Go.Proofs Go.Vm
set_option linter.unusedVariables false
set_option maxRecDepth 100000
theorem awake_run : isT (TryzF4 [] (h0 TryzG)) = true := by kernel_rfl
/-- awake, in any heap: true, and the heap is left as it was -/
def TryzF4c : Fun := constB true
theorem Tryzc4c : CallOk Tryz.prog TryzG 4 TryzF4c := (isT_ok awake_run).elim fun h e => constB_ok Tryzc4 e
/-! 3: pillarbox/pillarboxlaw25.ImapAlone -/
def Tryzk3 : Nat → Bool := fun t => memN t [0, 2, 3, 4, 5, 8, 21]
def Tryzr3_0 (fr : F) (h : Hp) : Out :=
  Out.nor (T.set (some (.bool false)) (Pos.of 2) fr) h
def Tryzr3_1 (fr : F) (h : Hp) : Out :=
  gtO (T.get fr (Pos.of 0)) fun v0 => bndO (oLenK 1 v0 h) fun v7 h1 =>
  bndO (oBin .gtr .none v7 (.int .i64 300) h1) fun v8 h2 =>
  Out.nor (T.set (some v8) (Pos.of 8) fr) h2
def Tryzr3_2 (fr : F) (h : Hp) : Out :=
  bndO (TryzF4c [] h) fun v9 h0 =>
  Out.nor (T.set (some v9) (Pos.of 2) fr) h0
def Tryzr3_3 (fr : F) (h : Hp) : Out :=
  Out.nor (T.set (some .nilp) (Pos.of 3) fr) h
def Tryzr3_4 (fr : F) (h : Hp) : Out :=
  bndO (TryzF6 [] h) fun v11 h0 =>
  bndO (TryzF5 [v11] h0) fun v12 h1 =>
  bndO (oExtract 0 v12 h1) fun v13 h3 =>
  bndO (oExtract 1 v12 h3) fun v14 h4 =>
  Out.nor (T.set (some v14) (Pos.of 5) (T.set (some v13) (Pos.of 4) fr)) h4
def Tryzr3_5 (fr : F) (h : Hp) : Out :=
  gtO (T.get fr (Pos.of 5)) fun v5 => bndO (TryzF7 [v5] h) fun v16 h1 =>
  bndO (oBin .neq .none v16 (.int .i64 0) h1) fun v17 h2 =>
  ifB v17 (Out.nor (T.set (some (.bool true)) (Pos.of 21) fr) h2) (gtO (T.get fr (Pos.of 4)) fun v4 => bndO (oBin .eql (.ptr 16) v4 .nilp h2) fun v20 h5 =>
  Out.nor (T.set (some v20) (Pos.of 21) fr) h5)
def Tryzr3_6 (fr : F) (h : Hp) : Out :=
  Out.nor (T.set (some (.bool false)) (Pos.of 2) fr) h
def Tryzr3_7 (fr : F) (h : Hp) : Out :=
  gtO (T.get fr (Pos.of 3)) fun v3 => gtO (T.get fr (Pos.of 4)) fun v4 => bndO (TryzF8 [v3, v4, (.str [97, 32, 78, 79, 79, 80, 13, 10])] h) fun v24 h2 =>
  bndO (oBin .eql .none v24 (.str []) h2) fun v25 h3 =>
  ifB v25 (bndO (TryzF9 [] h3) fun v27 h5 =>
  bndO (TryzF8 [v27, .nilp, (.str [97, 32, 78, 79, 79, 80, 13, 10])] h5) fun v28 h6 =>
  bndO (oBin .eql .none v28 (.str []) h6) fun v29 h7 =>
  ifB v29 (bndO (TryzF4c [] h7) fun v32 h10 =>
  Out.nor (T.set (some v32) (Pos.of 2) fr) h10) (Out.nor (T.set (some (.bool false)) (Pos.of 2) fr) h7)) (Out.nor (T.set (some (.bool false)) (Pos.of 2) fr) h3)
def Tryzd3 : F → Hp → Out := (seqO Tryzr3_0 (seqO (seqO Tryzr3_1 (cndX (.tmp 8) (seqO Tryzr3_2 Out.ret) Out.nor)) (seqO Tryzr3_3 (seqO Tryzr3_4 (seqO (seqO Tryzr3_5 (cndX (.tmp 21) (seqO Tryzr3_6 Out.ret) Out.nor)) (seqO Tryzr3_7 Out.ret))))))
def Tryze3 : FuncId → Option Fun := fun f => match Nat.beq f 4 with | true => some TryzF4c | false => match Nat.beq f 6 with | true => some TryzF6 | false => match Nat.beq f 5 with | true => some TryzF5 | false => match Nat.beq f 7 with | true => some TryzF7 | false => match Nat.beq f 8 with | true => some TryzF8 | false => match Nat.beq f 9 with | true => some TryzF9 | false => none
def Tryzp3 : Plans := fun id => none
def TryzF3 : Fun := funX Tryz.prog TryzG Tryzk3 Tryze3 Tryzp3 lf Tryz.f3
theorem TryzD3 : denX Tryz.prog TryzG Tryz.f3.ntmps Tryzk3 Tryze3 Tryzp3 lf (codeOf Tryz.f3) = Tryzd3 := by kernel_rfl
theorem TryzF3_eq (x0 : V) (h : Hp) : TryzF3 [x0] h = outR Tryz.prog [.tmp 2] (Tryzd3 (T.set (some x0) (Pos.of 0) T.nil) h) := funX_eq (by kernel_rfl) TryzD3 (by kernel_rfl) h
theorem Tryzc3 : CallOk Tryz.prog TryzG 3 TryzF3 := funX_ok Tryzmix (callsOk_cons Tryzc4c (callsOk_cons Tryzc6 (callsOk_cons Tryzc5 (callsOk_cons Tryzc7 (callsOk_cons Tryzc8 (callsOk_cons Tryzc9 callsOk_0)))))) Tryz.func3 (by kernel_rfl)


def alC : F → Hp → Out := cndX (.tmp 8) (seqO Tryzr3_2 Out.ret) Out.nor
def alR : F → Hp → Out := seqO Tryzr3_3 (seqO Tryzr3_4 (seqO (seqO Tryzr3_5 (cndX (.tmp 21) (seqO Tryzr3_6 Out.ret) Out.nor)) (seqO Tryzr3_7 Out.ret)))
def alF (s : List Nat) : F := T.set (some (.bool false)) (Pos.of 2) (T.set (some (.str s)) (Pos.of 0) T.nil)
def alB (b : Bool) (s : List Nat) : R V := outR Tryz.prog [.tmp 2] (seqO alC alR (T.set (some (.bool b)) (Pos.of 8) (alF s)) (h0 TryzG))
theorem al_true (s : List Nat) : isT (alB true s) = true := by kernel_rfl
theorem al_false (s : List Nat) : isT (alB false s) = true := by kernel_rfl
theorem gtr_b (n : Nat) (h : Hp) : ∃ b, oBin .gtr .none (.int .i64 (.ofNat n)) (.int .i64 300) h = .ok (.bool b) h := ⟨_, okBool_eq _ h⟩
theorem al_r1 (s : List Nat) : ∃ b, Tryzr3_1 (alF s) (h0 TryzG) = .nor (T.set (some (.bool b)) (Pos.of 8) (alF s)) (h0 TryzG) := by
  obtain ⟨b, hb⟩ := gtr_b (lenN s) (h0 TryzG)
  refine ⟨b, ?_⟩
  have e : Tryzr3_1 (alF s) (h0 TryzG) = bndO (oBin .gtr .none (.int .i64 (.ofNat (lenN s))) (.int .i64 300) (h0 TryzG)) fun v8 h2 => Out.nor (T.set (some v8) (Pos.of 8) (alF s)) h2 := rfl
  rw [e, hb]
  rfl
theorem alone_ok (s : List Nat) : ∃ h', TryzF3 [.str s] (h0 TryzG) = .ok (.bool true) h' := by
  apply isT_ok
  rw [TryzF3_eq]
  have e0 : Tryzd3 (T.set (some (.str s)) (Pos.of 0) T.nil) (h0 TryzG) = seqO (seqO Tryzr3_1 alC) alR (alF s) (h0 TryzG) := rfl
  obtain ⟨b, hb⟩ := al_r1 s
  have e1 : seqO (seqO Tryzr3_1 alC) alR (alF s) (h0 TryzG) = seqO alC alR (T.set (some (.bool b)) (Pos.of 8) (alF s)) (h0 TryzG) := by
    unfold seqO
    rw [hb]
  rw [e0, e1]
  cases b
  · exact al_false s
  · exact al_true s
end Go.Proofs.YtlcpojnlmgkkcaaGreatDoor
