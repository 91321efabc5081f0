/- Part of the value machine, or of a walk by it: lemmas that the claim's last text uses. No conditions. -/
import Derived.Test.YtnlbcbjgejpanaaGreatDoorRows
import Derived.LaidByTextLater
import Derived.SevenTiedAt
import Derived.Test.YtnlbcbjgejpanaaGreatDoorChecked
import Derived.KernelRfl
import Derived.Test.YtnlbcbjgejpanaaGreatDoorSeSvE
import Derived.JoinedOf
set_option linter.unusedVariables false
set_option linter.unusedSimpArgs false
set_option linter.unnecessarySimpa false
namespace Go.Proofs.YtnlbcbjgejpanaaGreatDoor.ServerEndsZ
open Go Go.Proofs Go.Proofs.YtnlbcbjgejpanaaGreatDoor
set_option maxRecDepth 100000
noncomputable section
theorem k0 : (Rows.serverEndsRow.wf (OpenSpec.ofChange ((OpenSpec.ofChange Rows.serverEndsSpec).bare))) = true := by kernel_rfl
theorem k1 : (laidOutB Tryz.prog) = true := Go.Proofs.YtnlbcbjgejpanaaGreatDoor.OwnLaid.laidOutP
theorem k2 : (mapsRowed Tryz.prog) = true := by kernel_rfl
theorem k3 : (Tryz.f4.params.all (Tryz.prog.readableRec ·)) = true := by kernel_rfl
theorem k4 : (namedTie Tryz.prog Rows.serverEndsRow.named ((OpenSpec.ofChange Rows.serverEndsSpec).bare).vars) = true := by kernel_rfl
theorem k5 : ((Rows.serverEndsRow.stops == [])) = true := by kernel_rfl
theorem k6 : ((Tryz.prog.stops == [])) = true := by kernel_rfl
theorem k7 : ((Rows.serverEndsRow.knobs == [])) = true := by kernel_rfl
theorem k8 : ((Tryz.prog.stopKnobs == [])) = true := by kernel_rfl
theorem k13 : ((Rows.serverEndsRow.maps == (Tryz.f4.params.toList ++ ((OpenSpec.ofChange Rows.serverEndsSpec).bare).plain.varTypes Tryz.prog).any (Tryz.prog.mapsRec ·))) = true := by kernel_rfl
theorem k14 : ((Rows.serverEndsRow.ifaces == (Tryz.f4.params.toList ++ ((OpenSpec.ofChange Rows.serverEndsSpec).bare).plain.varTypes Tryz.prog).any (Tryz.prog.ifacesRec ·))) = true := by kernel_rfl
theorem k15 : ((Rows.serverEndsRow.mapsOut == Tryz.prog.mapsAmong Tryz.f4.resultTypes.toList)) = true := by kernel_rfl
theorem k16 : ((Rows.serverEndsRow.loops == (Tryz.f4.params.toList ++ ((OpenSpec.ofChange Rows.serverEndsSpec).bare).plain.varTypes Tryz.prog).any (Tryz.prog.loopsFrom ·))) = true := by kernel_rfl
theorem k17 : ((Rows.serverEndsRow.wideKeys == (Tryz.f4.params.toList ++ ((OpenSpec.ofChange Rows.serverEndsSpec).bare).plain.varTypes Tryz.prog ++ Tryz.f4.resultTypes.toList).any (Tryz.prog.wideKeysFrom ·))) = true := by kernel_rfl
theorem k18 : (((OpenSpec.ofChange Rows.serverEndsSpec).bare).vars.all (Tryz.prog.varReadable ·)) = true := by kernel_rfl
theorem k19 : (Tryz.f4.resultTypes.all (fun t => Tryz.prog.readableRec t && decide (t < Tryz.prog.types.size))) = true := by kernel_rfl
theorem k20 : ((Rows.serverEndsRow.ifacesOut == Tryz.f4.resultTypes.toList.any (Tryz.prog.ifacesRec ·))) = true := by kernel_rfl
theorem k21 : ((Rows.serverEndsRow.loopsOut == Tryz.f4.resultTypes.toList.any (Tryz.prog.loopsFrom ·))) = true := by kernel_rfl
theorem k22 : ((Rows.serverEndsRow.plainKeys == Tryz.prog.plainKeys)) = true := by kernel_rfl
theorem k23 : (Rows.serverEndsRow.shortTexts.isNone) = true := by kernel_rfl
theorem k24 : (Tryz.prog.stopsHeard) = true := by kernel_rfl
theorem k25 : (Tryz.prog.mayEnter) = true := by kernel_rfl
theorem k26 : ((Rows.serverEndsRow.lifted == Tryz.prog.liftsFinal)) = true := by kernel_rfl
theorem k27 : ((Tryz.prog.make == some Rows.serverEndsRow.make)) = true := by kernel_rfl
theorem k28 : ((Rows.serverEndsRow.kinds == (if Rows.serverEndsRow.domain.isEmpty then [] else Tryz.f4.params.toList.map fun t => match Tryz.prog.underlying t with | some (.int k) => some k | _ => none))) = true := by kernel_rfl
theorem k29 : ((Rows.serverEndsRow.pinned == Rows.serverEndsRow.pinnedBy)) = true := by kernel_rfl
theorem k30 : ((Rows.serverEndsRow.veiled == (Tryz.f4.params.toList ++ ((OpenSpec.ofChange Rows.serverEndsSpec).bare).plain.varTypes Tryz.prog ++ Tryz.f4.resultTypes.toList).any (Tryz.prog.veiledRec ·))) = true := by kernel_rfl
theorem k31 : (Rows.serverEndsRow.veiledFits Tryz.prog Tryz.f4.params.toList (Tryz.f4.params.toList ++ ((OpenSpec.ofChange Rows.serverEndsSpec).bare).plain.varTypes Tryz.prog ++ Tryz.f4.resultTypes.toList)) = true := by kernel_rfl
end
end Go.Proofs.YtnlbcbjgejpanaaGreatDoor.ServerEndsZ
