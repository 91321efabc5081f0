/- Part of the value machine, or of a walk by it: lemmas that the claim's last text uses. No conditions. -/
import Derived.Test.YtnlbcbjgejpanaaGreatDoorRows
import Derived.LaidByTextLater
import Derived.SevenTiedAt
import Derived.Test.YtnlbcbjgejpanaaGreatDoorChecked
import Derived.KernelRfl
import Derived.Test.YtnlbcbjgejpanaaGreatDoorStSvE
import Derived.JoinedOf
set_option linter.unusedVariables false
set_option linter.unusedSimpArgs false
set_option linter.unnecessarySimpa false
namespace Go.Proofs.YtnlbcbjgejpanaaGreatDoor.ServerTicksZ
open Go Go.Proofs Go.Proofs.YtnlbcbjgejpanaaGreatDoor
set_option maxRecDepth 100000
noncomputable section
theorem k0 : (Rows.serverTicksRow.wf (OpenSpec.ofChange ((OpenSpec.ofChange Rows.serverTicksSpec).bare))) = true := by kernel_rfl
theorem k1 : (laidOutB Tryz.prog) = true := Go.Proofs.YtnlbcbjgejpanaaGreatDoor.OwnLaid.laidOutP
theorem k2 : (mapsRowed Tryz.prog) = true := by kernel_rfl
theorem k3 : (Tryz.f3.params.all (Tryz.prog.readableRec ·)) = true := by kernel_rfl
theorem k4 : (namedTie Tryz.prog Rows.serverTicksRow.named ((OpenSpec.ofChange Rows.serverTicksSpec).bare).vars) = true := by kernel_rfl
theorem k5 : ((Rows.serverTicksRow.stops == [])) = true := by kernel_rfl
theorem k6 : ((Tryz.prog.stops == [])) = true := by kernel_rfl
theorem k7 : ((Rows.serverTicksRow.knobs == [])) = true := by kernel_rfl
theorem k8 : ((Tryz.prog.stopKnobs == [])) = true := by kernel_rfl
theorem k13 : ((Rows.serverTicksRow.maps == (Tryz.f3.params.toList ++ ((OpenSpec.ofChange Rows.serverTicksSpec).bare).plain.varTypes Tryz.prog).any (Tryz.prog.mapsRec ·))) = true := by kernel_rfl
theorem k14 : ((Rows.serverTicksRow.ifaces == (Tryz.f3.params.toList ++ ((OpenSpec.ofChange Rows.serverTicksSpec).bare).plain.varTypes Tryz.prog).any (Tryz.prog.ifacesRec ·))) = true := by kernel_rfl
theorem k15 : ((Rows.serverTicksRow.mapsOut == Tryz.prog.mapsAmong Tryz.f3.resultTypes.toList)) = true := by kernel_rfl
theorem k16 : ((Rows.serverTicksRow.loops == (Tryz.f3.params.toList ++ ((OpenSpec.ofChange Rows.serverTicksSpec).bare).plain.varTypes Tryz.prog).any (Tryz.prog.loopsFrom ·))) = true := by kernel_rfl
theorem k17 : ((Rows.serverTicksRow.wideKeys == (Tryz.f3.params.toList ++ ((OpenSpec.ofChange Rows.serverTicksSpec).bare).plain.varTypes Tryz.prog ++ Tryz.f3.resultTypes.toList).any (Tryz.prog.wideKeysFrom ·))) = true := by kernel_rfl
theorem k18 : (((OpenSpec.ofChange Rows.serverTicksSpec).bare).vars.all (Tryz.prog.varReadable ·)) = true := by kernel_rfl
theorem k19 : (Tryz.f3.resultTypes.all (fun t => Tryz.prog.readableRec t && decide (t < Tryz.prog.types.size))) = true := by kernel_rfl
theorem k20 : ((Rows.serverTicksRow.ifacesOut == Tryz.f3.resultTypes.toList.any (Tryz.prog.ifacesRec ·))) = true := by kernel_rfl
theorem k21 : ((Rows.serverTicksRow.loopsOut == Tryz.f3.resultTypes.toList.any (Tryz.prog.loopsFrom ·))) = true := by kernel_rfl
theorem k22 : ((Rows.serverTicksRow.plainKeys == Tryz.prog.plainKeys)) = true := by kernel_rfl
theorem k23 : (Rows.serverTicksRow.shortTexts.isNone) = true := by kernel_rfl
theorem k24 : (Tryz.prog.stopsHeard) = true := by kernel_rfl
theorem k25 : (Tryz.prog.mayEnter) = true := by kernel_rfl
theorem k26 : ((Rows.serverTicksRow.lifted == Tryz.prog.liftsFinal)) = true := by kernel_rfl
theorem k27 : ((Tryz.prog.make == some Rows.serverTicksRow.make)) = true := by kernel_rfl
theorem k28 : ((Rows.serverTicksRow.kinds == (if Rows.serverTicksRow.domain.isEmpty then [] else Tryz.f3.params.toList.map fun t => match Tryz.prog.underlying t with | some (.int k) => some k | _ => none))) = true := by kernel_rfl
theorem k29 : ((Rows.serverTicksRow.pinned == Rows.serverTicksRow.pinnedBy)) = true := by kernel_rfl
theorem k30 : ((Rows.serverTicksRow.veiled == (Tryz.f3.params.toList ++ ((OpenSpec.ofChange Rows.serverTicksSpec).bare).plain.varTypes Tryz.prog ++ Tryz.f3.resultTypes.toList).any (Tryz.prog.veiledRec ·))) = true := by kernel_rfl
theorem k31 : (Rows.serverTicksRow.veiledFits Tryz.prog Tryz.f3.params.toList (Tryz.f3.params.toList ++ ((OpenSpec.ofChange Rows.serverTicksSpec).bare).plain.varTypes Tryz.prog ++ Tryz.f3.resultTypes.toList)) = true := by kernel_rfl
end
end Go.Proofs.YtnlbcbjgejpanaaGreatDoor.ServerTicksZ
