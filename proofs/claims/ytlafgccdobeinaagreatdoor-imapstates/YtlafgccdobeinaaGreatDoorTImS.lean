/- Part of the value machine, or of a walk by it: lemmas that the claim's last text uses. No conditions. -/
import Derived.Test.YtlafgccdobeinaaGreatDoorTImR
import Derived.Test.YtlafgccdobeinaaGreatDoorTImK
import Derived.Test.YtlafgccdobeinaaGreatDoorTVmQ
import Derived.KernelRfl
set_option linter.unusedVariables false
set_option linter.unusedSimpArgs false
set_option linter.unnecessarySimpa false
noncomputable section
namespace Go.Proofs.ImD
open Go Go.Proofs Go.Vm Go.Ln Go.Proofs.ImW
set_option linter.unusedVariables false
set_option maxRecDepth 100000
set_option maxHeartbeats 4000000
def digP : Plans := fun id => match Nat.beq id 3 with | true => some ([0, 1, 3, 0, 8, 24, 56, 120, 248, 511, 1023], [(0, .pure), (1, .pure), (2, .heavy), (3, .pure), (4, .pure), (5, .pure), (6, .pure), (7, .alloc), (8, .own 7), (9, .pure), (10, .pure)]) | false => none
def digN : Nat → Fun
  | 0 => fun _ _ => .bad
  | n + 1 => funX Tryz.prog TryG (fun _ => true) (fun f => match Nat.beq f 13 with | true => some (digN n) | false => none) digP lf Tryz.f13
theorem digN_ok : ∀ n, CallOk Tryz.prog TryG 13 (digN n)
  | 0 => fun _ _ _ _ _ _ _ e => by cases e
  | n + 1 => funX_ok Trymix (callsOk_cons (digN_ok n) callsOk_0) Tryz.func13 (by kernel_rfl)
def digA (args : List V) : Option V := match args with
  | [.int .i64 (.ofNat m)] => if m < 256 then some (.str (digM m)) else none
  | _ => none
theorem dig_run : allTo 256 (fun n => chkC TryG TryG [] [] (.str (digM n)) (digN 4 [.int .i64 (.ofNat n)] (mkO TryG []))) = true := by kernel_rfl
def TryF13 : Fun := scalF digA (digN 4)
theorem Tryc13 : CallOk Tryz.prog TryG 13 TryF13 := scalF_ok (digN_ok 4) fun args r e => by
  unfold digA at e
  split at e
  · rename_i m
    split at e
    · rename_i hm
      cases e
      exact ⟨rfl, allTo_ok dig_run m hm⟩
    · cases e
  · cases e
theorem dig_eq {n : Nat} (hn : n < 256) (h : Hp) : TryF13 [.int .i64 (n : Int)] h = .ok (.str (digM n)) h := by
  show scalF digA (digN 4) [.int .i64 (.ofNat n)] h = _
  unfold scalF digA
  simp only [if_pos hn]
end Go.Proofs.ImD
