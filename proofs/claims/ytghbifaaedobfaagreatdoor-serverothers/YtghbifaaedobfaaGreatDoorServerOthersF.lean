/- Part of the value machine, or of a walk by it: lemmas that the claim's last text uses. No conditions. -/
import Derived.Test.YtghbifaaedobfaaGreatDoorRows
import Derived.LaidByTextLater
import Derived.SevenTiedAt
import Derived.Test.YtghbifaaedobfaaGreatDoorChecked
import Derived.KernelRfl
import Derived.Test.YtghbifaaedobfaaGreatDoorVmS
import Derived.JoinedOf
set_option linter.unusedVariables false
set_option linter.unusedSimpArgs false
set_option linter.unnecessarySimpa false
namespace Go.Proofs.YtghbifaaedobfaaGreatDoor.ServerOthersZ
open Go Go.Proofs Go.Proofs.YtghbifaaedobfaaGreatDoor
set_option maxRecDepth 100000
noncomputable section
theorem k0 : (Rows.serverOthersRow.wf (OpenSpec.ofChange ((OpenSpec.ofChange Rows.serverOthersSpec).bare))) = true := by kernel_rfl
theorem k1 : (laidOutB Tryz.prog) = true := Go.Proofs.YtghbifaaedobfaaGreatDoor.OwnLaid.laidOutP
theorem k2 : (mapsRowed Tryz.prog) = true := by kernel_rfl
theorem k3 : (Tryz.f4.params.all (Tryz.prog.readableRec ·)) = true := by kernel_rfl
theorem k4 : (namedTie Tryz.prog Rows.serverOthersRow.named ((OpenSpec.ofChange Rows.serverOthersSpec).bare).vars) = true := by kernel_rfl
theorem k5 : ((Rows.serverOthersRow.stops == [])) = true := by kernel_rfl
theorem k6 : ((Tryz.prog.stops == [])) = true := by kernel_rfl
theorem k7 : ((Rows.serverOthersRow.knobs == [])) = true := by kernel_rfl
theorem k8 : ((Tryz.prog.stopKnobs == [])) = true := by kernel_rfl
theorem k13 : ((Rows.serverOthersRow.maps == (Tryz.f4.params.toList ++ ((OpenSpec.ofChange Rows.serverOthersSpec).bare).plain.varTypes Tryz.prog).any (Tryz.prog.mapsRec ·))) = true := by kernel_rfl
theorem k14 : ((Rows.serverOthersRow.ifaces == (Tryz.f4.params.toList ++ ((OpenSpec.ofChange Rows.serverOthersSpec).bare).plain.varTypes Tryz.prog).any (Tryz.prog.ifacesRec ·))) = true := by kernel_rfl
theorem k15 : ((Rows.serverOthersRow.mapsOut == Tryz.prog.mapsAmong Tryz.f4.resultTypes.toList)) = true := by kernel_rfl
theorem k16 : ((Rows.serverOthersRow.loops == (Tryz.f4.params.toList ++ ((OpenSpec.ofChange Rows.serverOthersSpec).bare).plain.varTypes Tryz.prog).any (Tryz.prog.loopsFrom ·))) = true := by kernel_rfl
theorem k17 : ((Rows.serverOthersRow.wideKeys == (Tryz.f4.params.toList ++ ((OpenSpec.ofChange Rows.serverOthersSpec).bare).plain.varTypes Tryz.prog ++ Tryz.f4.resultTypes.toList).any (Tryz.prog.wideKeysFrom ·))) = true := by kernel_rfl
theorem k18 : (((OpenSpec.ofChange Rows.serverOthersSpec).bare).vars.all (Tryz.prog.varReadable ·)) = true := by kernel_rfl
theorem k19 : (Tryz.f4.resultTypes.all (fun t => Tryz.prog.readableRec t && decide (t < Tryz.prog.types.size))) = true := by kernel_rfl
theorem k20 : ((Rows.serverOthersRow.ifacesOut == Tryz.f4.resultTypes.toList.any (Tryz.prog.ifacesRec ·))) = true := by kernel_rfl
theorem k21 : ((Rows.serverOthersRow.loopsOut == Tryz.f4.resultTypes.toList.any (Tryz.prog.loopsFrom ·))) = true := by kernel_rfl
theorem k22 : ((Rows.serverOthersRow.plainKeys == Tryz.prog.plainKeys)) = true := by kernel_rfl
theorem k23 : (Rows.serverOthersRow.shortTexts.isNone) = true := by kernel_rfl
theorem k24 : (Tryz.prog.stopsHeard) = true := by kernel_rfl
theorem k25 : (Tryz.prog.mayEnter) = true := by kernel_rfl
theorem k26 : ((Rows.serverOthersRow.lifted == Tryz.prog.liftsFinal)) = true := by kernel_rfl
theorem k27 : ((Tryz.prog.make == some Rows.serverOthersRow.make)) = true := by kernel_rfl
theorem k28 : ((Rows.serverOthersRow.kinds == (if Rows.serverOthersRow.domain.isEmpty then [] else Tryz.f4.params.toList.map fun t => match Tryz.prog.underlying t with | some (.int k) => some k | _ => none))) = true := by kernel_rfl
theorem k29 : ((Rows.serverOthersRow.pinned == Rows.serverOthersRow.pinnedBy)) = true := by kernel_rfl
theorem k30 : ((Rows.serverOthersRow.veiled == (Tryz.f4.params.toList ++ ((OpenSpec.ofChange Rows.serverOthersSpec).bare).plain.varTypes Tryz.prog ++ Tryz.f4.resultTypes.toList).any (Tryz.prog.veiledRec ·))) = true := by kernel_rfl
theorem k31 : (Rows.serverOthersRow.veiledFits Tryz.prog Tryz.f4.params.toList (Tryz.f4.params.toList ++ ((OpenSpec.ofChange Rows.serverOthersSpec).bare).plain.varTypes Tryz.prog ++ Tryz.f4.resultTypes.toList)) = true := by kernel_rfl
end
end Go.Proofs.YtghbifaaedobfaaGreatDoor.ServerOthersZ
