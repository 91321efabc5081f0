/- Part of the claim: facts that its last text uses. No conditions. -/
import Derived.Test.YtfaolchpaooboaaGreatDoorTie
import Derived.Test.YtfaolchpaooboaaGreatDoorChecked
import Derived.KernelRfl
import Derived.JoinedOf
set_option linter.all false
namespace Go.Proofs.YtfaolchpaooboaaGreatDoor.JmapBoxesZ
open Go Go.Proofs Go.Proofs.YtfaolchpaooboaaGreatDoor
set_option maxRecDepth 100000
noncomputable section
theorem k0 : (Rows.jmapBoxesRow.wf (OpenSpec.ofChange ((OpenSpec.ofChange Rows.jmapBoxesSpec).bare))) = true := by kernel_rfl
theorem k1 : (laidOutB Tryz.prog) = true := by kernel_rfl
theorem k2 : (mapsRowed Tryz.prog) = true := by kernel_rfl
theorem k3 : (Tryz.f4.params.all (Tryz.prog.readableRec ·)) = true := by kernel_rfl
theorem k4 : (namedTie Tryz.prog Rows.jmapBoxesRow.named ((OpenSpec.ofChange Rows.jmapBoxesSpec).bare).vars) = true := by kernel_rfl
theorem k5 : ((Rows.jmapBoxesRow.stops == [])) = true := by kernel_rfl
theorem k6 : ((Tryz.prog.stops == [])) = true := by kernel_rfl
theorem k7 : ((Rows.jmapBoxesRow.knobs == [])) = true := by kernel_rfl
theorem k8 : ((Tryz.prog.stopKnobs == [])) = true := by kernel_rfl
theorem k13 : ((Rows.jmapBoxesRow.maps == (Tryz.f4.params.toList ++ ((OpenSpec.ofChange Rows.jmapBoxesSpec).bare).plain.varTypes Tryz.prog).any (Tryz.prog.mapsRec ·))) = true := by kernel_rfl
theorem k14 : ((Rows.jmapBoxesRow.ifaces == (Tryz.f4.params.toList ++ ((OpenSpec.ofChange Rows.jmapBoxesSpec).bare).plain.varTypes Tryz.prog).any (Tryz.prog.ifacesRec ·))) = true := by kernel_rfl
theorem k15 : ((Rows.jmapBoxesRow.mapsOut == Tryz.prog.mapsAmong Tryz.f4.resultTypes.toList)) = true := by kernel_rfl
theorem k16 : ((Rows.jmapBoxesRow.loops == (Tryz.f4.params.toList ++ ((OpenSpec.ofChange Rows.jmapBoxesSpec).bare).plain.varTypes Tryz.prog).any (Tryz.prog.loopsFrom ·))) = true := by kernel_rfl
theorem k17 : ((Rows.jmapBoxesRow.wideKeys == (Tryz.f4.params.toList ++ ((OpenSpec.ofChange Rows.jmapBoxesSpec).bare).plain.varTypes Tryz.prog ++ Tryz.f4.resultTypes.toList).any (Tryz.prog.wideKeysFrom ·))) = true := by kernel_rfl
theorem k18 : (((OpenSpec.ofChange Rows.jmapBoxesSpec).bare).vars.all (Tryz.prog.varReadable ·)) = true := by kernel_rfl
theorem k19 : (Tryz.f4.resultTypes.all (fun t => Tryz.prog.readableRec t && decide (t < Tryz.prog.types.size))) = true := by kernel_rfl
theorem k20 : ((Rows.jmapBoxesRow.ifacesOut == Tryz.f4.resultTypes.toList.any (Tryz.prog.ifacesRec ·))) = true := by kernel_rfl
theorem k21 : ((Rows.jmapBoxesRow.loopsOut == Tryz.f4.resultTypes.toList.any (Tryz.prog.loopsFrom ·))) = true := by kernel_rfl
theorem k22 : ((Rows.jmapBoxesRow.plainKeys == Tryz.prog.plainKeys)) = true := by kernel_rfl
theorem k23 : (Rows.jmapBoxesRow.shortTexts.isNone) = true := by kernel_rfl
theorem k24 : (Tryz.prog.stopsHeard) = true := by kernel_rfl
theorem k25 : (Tryz.prog.mayEnter) = true := by kernel_rfl
theorem k26 : ((Rows.jmapBoxesRow.lifted == Tryz.prog.liftsFinal)) = true := by kernel_rfl
theorem k27 : ((Tryz.prog.make == some Rows.jmapBoxesRow.make)) = true := by kernel_rfl
theorem k28 : ((Rows.jmapBoxesRow.kinds == (if Rows.jmapBoxesRow.domain.isEmpty then [] else Tryz.f4.params.toList.map fun t => match Tryz.prog.underlying t with | some (.int k) => some k | _ => none))) = true := by kernel_rfl
theorem k29 : ((Rows.jmapBoxesRow.pinned == Rows.jmapBoxesRow.pinnedBy)) = true := by kernel_rfl
theorem k30 : ((Rows.jmapBoxesRow.veiled == (Tryz.f4.params.toList ++ ((OpenSpec.ofChange Rows.jmapBoxesSpec).bare).plain.varTypes Tryz.prog ++ Tryz.f4.resultTypes.toList).any (Tryz.prog.veiledRec ·))) = true := by kernel_rfl
theorem k31 : (Rows.jmapBoxesRow.veiledFits Tryz.prog Tryz.f4.params.toList (Tryz.f4.params.toList ++ ((OpenSpec.ofChange Rows.jmapBoxesSpec).bare).plain.varTypes Tryz.prog ++ Tryz.f4.resultTypes.toList)) = true := by kernel_rfl
end
end Go.Proofs.YtfaolchpaooboaaGreatDoor.JmapBoxesZ
