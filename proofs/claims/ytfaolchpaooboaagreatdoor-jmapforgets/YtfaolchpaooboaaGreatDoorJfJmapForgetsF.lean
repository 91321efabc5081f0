/- Part of the value machine, or of a walk by it: lemmas that the claim's last text uses. No conditions. -/
import Derived.Test.YtfaolchpaooboaaGreatDoorTie
import Derived.Test.YtfaolchpaooboaaGreatDoorChecked
import Derived.KernelRfl
import Derived.JoinedOf
set_option linter.unusedVariables false
set_option linter.unusedSimpArgs false
set_option linter.unnecessarySimpa false
namespace Go.Proofs.YtfaolchpaooboaaGreatDoor.JmapForgetsZ
open Go Go.Proofs Go.Proofs.YtfaolchpaooboaaGreatDoor
set_option maxRecDepth 100000
noncomputable section
theorem k0 : (Rows.jmapForgetsRow.wf (OpenSpec.ofChange ((OpenSpec.ofChange Rows.jmapForgetsSpec).bare))) = true := by kernel_rfl
theorem k1 : (laidOutB Tryz.prog) = true := by kernel_rfl
theorem k2 : (mapsRowed Tryz.prog) = true := by kernel_rfl
theorem k3 : (Tryz.f3.params.all (Tryz.prog.readableRec ·)) = true := by kernel_rfl
theorem k4 : (namedTie Tryz.prog Rows.jmapForgetsRow.named ((OpenSpec.ofChange Rows.jmapForgetsSpec).bare).vars) = true := by kernel_rfl
theorem k5 : ((Rows.jmapForgetsRow.stops == [])) = true := by kernel_rfl
theorem k6 : ((Tryz.prog.stops == [])) = true := by kernel_rfl
theorem k7 : ((Rows.jmapForgetsRow.knobs == [])) = true := by kernel_rfl
theorem k8 : ((Tryz.prog.stopKnobs == [])) = true := by kernel_rfl
theorem k13 : ((Rows.jmapForgetsRow.maps == (Tryz.f3.params.toList ++ ((OpenSpec.ofChange Rows.jmapForgetsSpec).bare).plain.varTypes Tryz.prog).any (Tryz.prog.mapsRec ·))) = true := by kernel_rfl
theorem k14 : ((Rows.jmapForgetsRow.ifaces == (Tryz.f3.params.toList ++ ((OpenSpec.ofChange Rows.jmapForgetsSpec).bare).plain.varTypes Tryz.prog).any (Tryz.prog.ifacesRec ·))) = true := by kernel_rfl
theorem k15 : ((Rows.jmapForgetsRow.mapsOut == Tryz.prog.mapsAmong Tryz.f3.resultTypes.toList)) = true := by kernel_rfl
theorem k16 : ((Rows.jmapForgetsRow.loops == (Tryz.f3.params.toList ++ ((OpenSpec.ofChange Rows.jmapForgetsSpec).bare).plain.varTypes Tryz.prog).any (Tryz.prog.loopsFrom ·))) = true := by kernel_rfl
theorem k17 : ((Rows.jmapForgetsRow.wideKeys == (Tryz.f3.params.toList ++ ((OpenSpec.ofChange Rows.jmapForgetsSpec).bare).plain.varTypes Tryz.prog ++ Tryz.f3.resultTypes.toList).any (Tryz.prog.wideKeysFrom ·))) = true := by kernel_rfl
theorem k18 : (((OpenSpec.ofChange Rows.jmapForgetsSpec).bare).vars.all (Tryz.prog.varReadable ·)) = true := by kernel_rfl
theorem k19 : (Tryz.f3.resultTypes.all (fun t => Tryz.prog.readableRec t && decide (t < Tryz.prog.types.size))) = true := by kernel_rfl
theorem k20 : ((Rows.jmapForgetsRow.ifacesOut == Tryz.f3.resultTypes.toList.any (Tryz.prog.ifacesRec ·))) = true := by kernel_rfl
theorem k21 : ((Rows.jmapForgetsRow.loopsOut == Tryz.f3.resultTypes.toList.any (Tryz.prog.loopsFrom ·))) = true := by kernel_rfl
theorem k22 : ((Rows.jmapForgetsRow.plainKeys == Tryz.prog.plainKeys)) = true := by kernel_rfl
theorem k23 : (Rows.jmapForgetsRow.shortTexts.isNone) = true := by kernel_rfl
theorem k24 : (Tryz.prog.stopsHeard) = true := by kernel_rfl
theorem k25 : (Tryz.prog.mayEnter) = true := by kernel_rfl
theorem k26 : ((Rows.jmapForgetsRow.lifted == Tryz.prog.liftsFinal)) = true := by kernel_rfl
theorem k27 : ((Tryz.prog.make == some Rows.jmapForgetsRow.make)) = true := by kernel_rfl
theorem k28 : ((Rows.jmapForgetsRow.kinds == (if Rows.jmapForgetsRow.domain.isEmpty then [] else Tryz.f3.params.toList.map fun t => match Tryz.prog.underlying t with | some (.int k) => some k | _ => none))) = true := by kernel_rfl
theorem k29 : ((Rows.jmapForgetsRow.pinned == Rows.jmapForgetsRow.pinnedBy)) = true := by kernel_rfl
theorem k30 : ((Rows.jmapForgetsRow.veiled == (Tryz.f3.params.toList ++ ((OpenSpec.ofChange Rows.jmapForgetsSpec).bare).plain.varTypes Tryz.prog ++ Tryz.f3.resultTypes.toList).any (Tryz.prog.veiledRec ·))) = true := by kernel_rfl
theorem k31 : (Rows.jmapForgetsRow.veiledFits Tryz.prog Tryz.f3.params.toList (Tryz.f3.params.toList ++ ((OpenSpec.ofChange Rows.jmapForgetsSpec).bare).plain.varTypes Tryz.prog ++ Tryz.f3.resultTypes.toList)) = true := by kernel_rfl
end
end Go.Proofs.YtfaolchpaooboaaGreatDoor.JmapForgetsZ
