/- Part of the value machine, or of a walk by it: lemmas that the claim's last text uses. No conditions. -/
import Derived.Test.YtlafgccdobeinaaGreatDoorESeA
import Derived.Test.YtlafgccdobeinaaGreatDoorEVmN
set_option linter.unusedVariables false
set_option linter.unusedSimpArgs false
set_option linter.unnecessarySimpa false
noncomputable section
namespace Go.Proofs.ImS
open Go Go.Proofs Go.Vm
set_option linter.unusedVariables false
set_option maxRecDepth 100000
set_option maxHeartbeats 4000000
theorem awake_run : isT (TryF6 [] (h0 TryG)) = true := by kernel_rfl
def TryF6c : Fun := constB true
theorem Tryc6c : CallOk Tryz.prog TryG 6 TryF6c := (isT_ok awake_run).elim fun h e => constB_ok Tryc6 e
def Tryk5 : Nat → Bool := fun t => memN t [0, 1, 4, 5, 6, 7, 8, 9, 10, 11, 12, 13, 14, 17, 18, 35, 65]
def Tryr5_0 (fr : F) (h : Hp) : Out :=
  Out.nor (T.set (some (.bool false)) (Pos.of 4) fr) h
def Tryr5_1 (fr : F) (h : Hp) : Out :=
  bndO (TryF12 [] h) fun v15 h0 =>
  Out.nor (T.set (some v15) (Pos.of 5) fr) h0
def Tryr5_2 (fr : F) (h : Hp) : Out :=
  gtO (T.get fr (Pos.of 5)) fun v5 => bndO (oBin .eql (.ptr 16) v5 .nilp h) fun v17 h1 =>
  Out.nor (T.set (some v17) (Pos.of 17) fr) h1
def Tryr5_3 (fr : F) (h : Hp) : Out :=
  Out.nor (T.set (some (.bool false)) (Pos.of 4) fr) h
def Tryr5_4 (fr : F) (h : Hp) : Out :=
  Out.nor (T.set (some .nils) (Pos.of 6) fr) h
def Tryr5_5 (fr : F) (h : Hp) : Out :=
  gtO (T.get fr (Pos.of 1)) fun v1 => Out.nor (T.set (some v1) (Pos.of 18) fr) h
def Tryr5_6 (fr : F) (h : Hp) : Out :=
  bndO (oBuildSlice 9 [(.str [])] 1 [(0, 1, (.str [36, 115, 101, 101, 110]))] h) fun v19 h0 =>
  Out.nor (T.set (some v19) (Pos.of 6) fr) h0
def Tryr5_7 (fr : F) (h : Hp) : Out :=
  gtO (T.get fr (Pos.of 5)) fun v5 => bndO (oBuildSlice 3 [(.int .i64 0)] 1 [(0, 1, (.int .i64 1))] h) fun v21 h1 =>
  gtO (T.get fr (Pos.of 6)) fun v6 => bndO (TryF14 [v5, v21, v6, (.int .i64 0), (.str [97, 13, 10, 13, 10, 98])] h1) fun v23 h3 =>
  Out.nor fr h3
def Tryr5_8 (fr : F) (h : Hp) : Out :=
  gtO (T.get fr (Pos.of 5)) fun v5 => bndO (TryF15 [v5] h) fun v25 h1 =>
  Out.nor (T.set (some v25) (Pos.of 7) fr) h1
def Tryr5_9 (fr : F) (h : Hp) : Out :=
  bndO (oBuildSlice 9 [(.str []), (.str []), (.str []), (.str []), (.str []), (.str []), (.str []), (.str []), (.str [])] 9 [(0, 1, (.str [66, 79, 68, 89, 91, 93])), (1, 1, (.str [66, 79, 68, 89, 46, 80, 69, 69, 75, 91, 93])), (2, 1, (.str [82, 70, 67, 56, 50, 50, 46, 72, 69, 65, 68, 69, 82])), (3, 1, (.str [82, 70, 67, 56, 50, 50, 46, 84, 69, 88, 84])), (4, 1, (.str [82, 70, 67, 56, 50, 50])), (5, 1, (.str [66, 79, 68, 89, 91, 84, 69, 88, 84, 93, 60, 48, 46, 49, 62])), (6, 1, (.str [70, 76, 65, 71, 83])), (7, 1, (.str [69, 78, 86, 69, 76, 79, 80, 69])), (8, 1, (.str [66, 79, 68, 89]))] h) fun v26 h0 =>
  Out.nor (T.set (some v26) (Pos.of 8) fr) h0
def Tryr5_10 (fr : F) (h : Hp) : Out :=
  bndO (oBuildSlice 4 [(.bool false), (.bool false), (.bool false), (.bool false), (.bool false), (.bool false), (.bool false), (.bool false), (.bool false)] 9 [(0, 1, (.bool true)), (1, 1, (.bool false)), (2, 1, (.bool false)), (3, 1, (.bool true)), (4, 1, (.bool true)), (5, 1, (.bool true)), (6, 1, (.bool false)), (7, 1, (.bool false)), (8, 1, (.bool false))] h) fun v27 h0 =>
  Out.nor (T.set (some v27) (Pos.of 9) fr) h0
def Tryr5_11 (fr : F) (h : Hp) : Out :=
  gtO (T.get fr (Pos.of 0)) fun v0 => bndO (oConvInt .i64 v0 h) fun v29 h1 =>
  gtO (T.get fr (Pos.of 8)) fun v8 => bndO (oLenK 2 v8 h1) fun v31 h3 =>
  bndO (oBin .rem .none v29 v31 h3) fun v32 h4 =>
  Out.nor (T.set (some v32) (Pos.of 10) fr) h4
def Tryr5_12 (fr : F) (h : Hp) : Out :=
  gtO (T.get fr (Pos.of 0)) fun v0 => bndO (oBin .geq .none v0 (.int .u8 128) h) fun v34 h1 =>
  Out.nor (T.set (some v34) (Pos.of 11) fr) h1
def Tryr5_13 (fr : F) (h : Hp) : Out :=
  gtO (T.get fr (Pos.of 11)) fun v11 => Out.nor (T.set (some v11) (Pos.of 35) fr) h
def Tryr5_14 (fr : F) (h : Hp) : Out :=
  gtO (T.get fr (Pos.of 7)) fun v7 => gtO (T.get fr (Pos.of 5)) fun v5 => bndO (TryF11 [v7, v5, (.str [119, 32, 69, 88, 65, 77, 73, 78, 69, 32, 73, 78, 66, 79, 88, 13, 10])] h) fun v38 h2 =>
  Out.nor fr h2
def Tryr5_15 (fr : F) (h : Hp) : Out :=
  gtO (T.get fr (Pos.of 7)) fun v7 => gtO (T.get fr (Pos.of 5)) fun v5 => gtO (T.get fr (Pos.of 8)) fun v8 => gtO (T.get fr (Pos.of 10)) fun v10 => bndO (oIdxS 1 v8 v10 h) fun v43 h4 =>
  bndO (oLoad1 v43 h4) fun v44 h5 =>
  bndO (oBin .add .none (.str [120, 32, 70, 69, 84, 67, 72, 32, 49, 32]) v44 h5) fun v45 h6 =>
  bndO (oBin .add .none v45 (.str [13, 10]) h6) fun v46 h7 =>
  bndO (TryF11 [v7, v5, v46] h7) fun v47 h8 =>
  Out.nor fr h8
def Tryr5_16 (fr : F) (h : Hp) : Out :=
  gtO (T.get fr (Pos.of 5)) fun v5 => bndO (TryF16 [v5] h) fun v49 h1 =>
  Out.nor (T.set (some v49) (Pos.of 12) fr) h1
def Tryr5_17 (fr : F) (h : Hp) : Out :=
  gtO (T.get fr (Pos.of 1)) fun v1 => ifB v1 (Out.nor (T.set (some (.bool true)) (Pos.of 13) fr) h) (gtO (T.get fr (Pos.of 9)) fun v9 => gtO (T.get fr (Pos.of 10)) fun v10 => bndO (oIdxS 1 v9 v10 h) fun v54 h4 =>
  bndO (oLoad1 v54 h4) fun v55 h5 =>
  ifB v55 (gtO (T.get fr (Pos.of 11)) fun v11 => bndO (oUn .not v11 h5) fun v58 h8 =>
  Out.nor (T.set (some v58) (Pos.of 13) fr) h8) (Out.nor (T.set (some (.bool false)) (Pos.of 13) fr) h5))
def Tryr5_18 (fr : F) (h : Hp) : Out :=
  Out.nor (T.set (some (.int .i64 2)) (Pos.of 14) fr) h
def Tryr5_19 (fr : F) (h : Hp) : Out :=
  gtO (T.get fr (Pos.of 13)) fun v13 => ifB v13 (gtO (T.get fr (Pos.of 1)) fun v1 => bndO (oUn .not v1 h) fun v64 h3 =>
  Out.nor (T.set (some v64) (Pos.of 65) fr) h3) (Out.nor (T.set (some (.bool false)) (Pos.of 65) fr) h)
def Tryr5_20 (fr : F) (h : Hp) : Out :=
  Out.nor (T.set (some (.int .i64 3)) (Pos.of 14) fr) h
def Tryr5_21 (fr : F) (h : Hp) : Out :=
  gtO (T.get fr (Pos.of 12)) fun v12 => bndO (oLenK 2 v12 h) fun v67 h1 =>
  bndO (oBin .eql .none v67 (.int .i64 1) h1) fun v68 h2 =>
  ifB v68 (bndO (oIdxS 8 v12 (.int .i64 0) h2) fun v71 h5 =>
  bndO (oFieldAddr 4 v71 h5) fun v72 h6 =>
  bndO (oLoad1 v72 h6) fun v73 h7 =>
  bndO (TryF17 [v73, (.str [36, 115, 101, 101, 110])] h7) fun v74 h8 =>
  gtO (T.get fr (Pos.of 13)) fun v13 => bndO (oBin .eql .bool v74 v13 h8) fun v76 h10 =>
  ifB v76 (gtO (T.get fr (Pos.of 5)) fun v5 => bndO (TryF9 [v5] h10) fun v80 h14 =>
  gtO (T.get fr (Pos.of 14)) fun v14 => bndO (oBin .eql .none v80 v14 h14) fun v82 h16 =>
  ifB v82 (bndO (TryF6c [] h16) fun v85 h19 =>
  Out.nor (T.set (some v85) (Pos.of 4) fr) h19) (Out.nor (T.set (some (.bool false)) (Pos.of 4) fr) h16)) (Out.nor (T.set (some (.bool false)) (Pos.of 4) fr) h10)) (Out.nor (T.set (some (.bool false)) (Pos.of 4) fr) h2)
def Tryd5 : F → Hp → Out := (seqO Tryr5_0 (seqO Tryr5_1 (seqO (seqO Tryr5_2 (cndX (.tmp 17) (seqO Tryr5_3 Out.ret) Out.nor)) (seqO Tryr5_4 (seqO (seqO Tryr5_5 (cndX (.tmp 18) Tryr5_6 Out.nor)) (seqO Tryr5_7 (seqO Tryr5_8 (seqO Tryr5_9 (seqO Tryr5_10 (seqO Tryr5_11 (seqO Tryr5_12 (seqO (seqO Tryr5_13 (cndX (.tmp 35) Tryr5_14 Out.nor)) (seqO Tryr5_15 (seqO Tryr5_16 (seqO Tryr5_17 (seqO Tryr5_18 (seqO (seqO Tryr5_19 (cndX (.tmp 65) Tryr5_20 Out.nor)) (seqO Tryr5_21 Out.ret))))))))))))))))))
def Trye5 : FuncId → Option Fun := fun f => match Nat.beq f 12 with | true => some TryF12 | false => match Nat.beq f 14 with | true => some TryF14 | false => match Nat.beq f 15 with | true => some TryF15 | false => match Nat.beq f 11 with | true => some TryF11 | false => match Nat.beq f 16 with | true => some TryF16 | false => match Nat.beq f 17 with | true => some TryF17 | false => match Nat.beq f 9 with | true => some TryF9 | false => match Nat.beq f 6 with | true => some TryF6c | false => none
def Tryp5 : Plans := fun id => none
def TryF5 : Fun := funX Tryz.prog TryG Tryk5 Trye5 Tryp5 lf Tryz.f5
theorem TryD5 : denX Tryz.prog TryG Tryz.f5.ntmps Tryk5 Trye5 Tryp5 lf (codeOf Tryz.f5) = Tryd5 := by kernel_rfl
theorem TryF5_eq (x0 x1 : V) (h : Hp) : TryF5 [x0, x1] h = outR Tryz.prog [.tmp 4] (Tryd5 (T.set (some x1) (Pos.of 1) (T.set (some x0) (Pos.of 0) T.nil)) h) := funX_eq (by kernel_rfl) TryD5 (by kernel_rfl) h
theorem Tryc5 : CallOk Tryz.prog TryG 5 TryF5 := funX_ok Trymix (callsOk_cons Tryc12 (callsOk_cons Tryc14 (callsOk_cons Tryc15 (callsOk_cons Tryc11 (callsOk_cons Tryc16 (callsOk_cons Tryc17 (callsOk_cons Tryc9 (callsOk_cons Tryc6c callsOk_0)))))))) Tryz.func5 (by kernel_rfl)
def seenP (t : F → Hp → Out) : F → Hp → Out := (seqO Tryr5_0 (seqO Tryr5_1 (seqO (seqO Tryr5_2 (cndX (.tmp 17) (seqO Tryr5_3 Out.ret) Out.nor)) (seqO Tryr5_4 (seqO (seqO Tryr5_5 (cndX (.tmp 18) Tryr5_6 Out.nor)) (seqO Tryr5_7 (seqO Tryr5_8 (seqO Tryr5_9 (seqO Tryr5_10 t)))))))))
def seenQ : F → Hp → Out := (seqO (seqO Tryr5_13 (cndX (.tmp 35) Tryr5_14 Out.nor)) (seqO Tryr5_15 (seqO Tryr5_16 (seqO Tryr5_17 (seqO Tryr5_18 (seqO (seqO Tryr5_19 (cndX (.tmp 65) Tryr5_20 Out.nor)) (seqO Tryr5_21 Out.ret)))))))
theorem seen_d : Tryd5 = seenP (seqO Tryr5_11 (seqO Tryr5_12 seenQ)) := rfl
theorem seqO_t (a b t : F → Hp → Out) : (fun fr h => thenO (seqO a b fr h) t) = seqO a (fun fr h => thenO (b fr h) t) := by
  funext fr h
  show thenO (seqO a b fr h) t = seqO a (fun fr h => thenO (b fr h) t) fr h
  unfold seqO
  cases a fr h <;> rfl
theorem seenP_t (t : F → Hp → Out) : (fun fr h => thenO (seenP Out.nor fr h) t) = seenP t := by
  unfold seenP
  repeat rw [seqO_t]
  rfl
theorem seenP_eq (t : F → Hp → Out) (fr : F) (h : Hp) : seenP t fr h = thenO (seenP Out.nor fr h) t := (congrFun (congrFun (seenP_t t) fr) h).symm
def fr0 (w : Bool) (x : V) : F := T.set (some (.bool w)) (Pos.of 1) (T.set (some x) (Pos.of 0) T.nil)
def isNor (o : Out) : Bool := match o with | .nor _ _ => true | .ret _ _ => false | .ex _ _ _ => false | .bad => false
def optF (o : Out) (k : Nat) : Option V := match o with | .nor fr _ => fr.get (Pos.of k) | .ret _ _ => none | .ex _ _ _ => none | .bad => none
def posS (o : Option V) : Pos := match o with | some v => (match v with | .slice i _ _ _ => i | _ => Pos.of 0) | none => Pos.of 0
theorem isNor_ok {o : Out} (e : isNor o = true) : ∃ fr h, o = .nor fr h := by
  cases o with
  | nor fr h => exact ⟨fr, h, rfl⟩
  | ret => cases e
  | ex => cases e
  | bad => cases e
def seenA (w : Bool) (x : V) : Out := seenP Out.nor (fr0 w x) (h0 TryG)
def seenT (i : Nat) (q w : Bool) (x : V) : Out := thenO (seenA w x) fun fr h => seenQ (T.set (some (.bool q)) (Pos.of 11) (T.set (some (.int .i64 (i : Int))) (Pos.of 10) fr)) h
theorem pre_t (x : V) : isNor (seenA true x) = true := by kernel_rfl
theorem pre_t0 (x : V) : optF (seenA true x) 0 = some x := by kernel_rfl
theorem pre_t8 (x : V) : optF (seenA true x) 8 = some (.slice (posS (optF (seenA true x) 8)) 0 9 (.kn 9)) := by kernel_rfl
theorem pre_f (x : V) : isNor (seenA false x) = true := by kernel_rfl
theorem pre_f0 (x : V) : optF (seenA false x) 0 = some x := by kernel_rfl
theorem pre_f8 (x : V) : optF (seenA false x) 8 = some (.slice (posS (optF (seenA false x) 8)) 0 9 (.kn 9)) := by kernel_rfl
end Go.Proofs.ImS
