/- Part of the value machine, or of a walk by it: lemmas that the claim's last text uses. No conditions. -/
import Derived.Test.YtfaolchpaooboaaGreatDoorJfJmR
import Derived.Test.YtfaolchpaooboaaGreatDoorJfVmS
import Derived.KernelRfl
set_option linter.unusedVariables false
set_option linter.unusedSimpArgs false
set_option linter.unnecessarySimpa false
noncomputable section
namespace Go.Proofs.Jm
open Go Go.Proofs Go.Vm
set_option linter.unusedVariables false
set_option linter.unusedSimpArgs false
set_option maxRecDepth 100000
set_option maxHeartbeats 4000000
def FrF (o : Option (F × Hp)) : F := match o with | some p => p.1 | none => T.nil
def FrH (o : Option (F × Hp)) : Hp := match o with | some p => p.2 | none => h0 0
def FC : Ctx := (.seqR Tryr3_0 (.seqR Tryr3_1 (.seqR Tryr3_2 (.seqR (seqO Tryr3_3 (cndX (.tmp 25) (seqO Tryr3_4 Out.ret) Out.nor)) (.seqL .hole (seqO Tryr3_6 (seqO Tryr3_7 (seqO (seqO Tryr3_8 (blkO 0 (loopO Tryb3_9 lf))) (seqO Tryr3_12 (seqO (seqO Tryr3_13 (cndX (.tmp 58) Tryr3_14 Out.nor)) (seqO Tryr3_15 (seqO Tryr3_16 (seqO (seqO Tryr3_17 (cndX (.tmp 82) (seqO Tryr3_18 Out.ret) Out.nor)) (seqO Tryr3_19 Out.ret))))))))))))))
theorem FD : Tryd3 = FC.fill Tryr3_5 := rfl
def Ffr (w : Bool) (x : V) : F := T.set (some (.bool w)) (Pos.of 1) (T.set (some x) (Pos.of 0) T.nil)
def FP (w : Bool) (x : V) : Option (F × Hp) := FC.reach (Ffr w x) (h0 TryG)
def FT (k : Nat) (w : Bool) (x : V) : Out := FC.after (Out.nor (T.set (some (.int .i64 ((k : Nat) : Int))) (Pos.of 7) (FrF (FP w x))) (FrH (FP w x)))
theorem Fp_t (x : V) : FP true x = some (FrF (FP true x), FrH (FP true x)) := by kernel_rfl
theorem Fq_t (x : V) : (FrF (FP true x)).get (Pos.of 0) = some x := by kernel_rfl
theorem Fp_f (x : V) : FP false x = some (FrF (FP false x), FrH (FP false x)) := by kernel_rfl
theorem Fq_f (x : V) : (FrF (FP false x)).get (Pos.of 0) = some x := by kernel_rfl
end Go.Proofs.Jm
