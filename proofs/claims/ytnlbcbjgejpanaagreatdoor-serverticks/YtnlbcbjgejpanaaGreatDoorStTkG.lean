/- Part of the value machine, or of a walk by it: lemmas that the claim's last text uses. No conditions. -/
import Derived.Test.YtnlbcbjgejpanaaGreatDoorStTkE
import Derived.KernelRfl
set_option linter.unusedVariables false
set_option linter.unusedSimpArgs false
set_option linter.unnecessarySimpa false
noncomputable section
namespace Go.Proofs.ImT
open Go Go.Proofs Go.Vm
set_option linter.unusedVariables false
set_option linter.unusedSimpArgs false
set_option maxRecDepth 100000
set_option maxHeartbeats 4000000
theorem lev10_1 (l : List V) (a c : Int) : Lev10 (hL l) a c := ⟨by kernel_rfl, fun A => by kernel_rfl, by kernel_rfl, by kernel_rfl⟩
theorem lev9_1 (l : List V) (a c : Int) : Lev9 (hL l) a c := ⟨by kernel_rfl, fun A => by kernel_rfl, by kernel_rfl, by kernel_rfl⟩
theorem lev18_1 (l : List V) (a c : Int) : Lev18 (hL l) a c := ⟨by kernel_rfl, fun A => by kernel_rfl, by kernel_rfl, by kernel_rfl⟩
theorem lev32_1 (l : List V) (a c : Int) : Lev32 (hL l) a c := ⟨by kernel_rfl, fun A => by kernel_rfl, by kernel_rfl, by kernel_rfl⟩
theorem lev70_1 (l : List V) (a c : Int) : Lev70 (hL l) a c := ⟨by kernel_rfl, fun A => by kernel_rfl, by kernel_rfl, by kernel_rfl⟩
theorem lev158_1 (l : List V) (a c : Int) : Lev158 (hL l) a c := ⟨by kernel_rfl, fun A => by kernel_rfl, by kernel_rfl, by kernel_rfl⟩
theorem lev61_1 (l : List V) (a c : Int) : Lev61 (hL l) a c := ⟨by kernel_rfl, fun A => by kernel_rfl, by kernel_rfl, by kernel_rfl⟩
theorem lev122_1 (l : List V) (a c : Int) : Lev122 (hL l) a c := ⟨by kernel_rfl, fun A1 A2 => by kernel_rfl, by kernel_rfl, by kernel_rfl⟩
end Go.Proofs.ImT
