/- Part of the value machine, or of a walk by it: lemmas that the claim's last text uses. No conditions. -/
import Derived.Test.YtlafgccdobeinaaGreatDoorTie
import Derived.Test.YtlafgccdobeinaaGreatDoorChecked
import Derived.KernelRfl
import Derived.JoinedOf
set_option linter.unusedVariables false
set_option linter.unusedSimpArgs false
set_option linter.unnecessarySimpa false
namespace Go.Proofs.YtlafgccdobeinaaGreatDoor.ImapSeenZ
open Go Go.Proofs Go.Proofs.YtlafgccdobeinaaGreatDoor
set_option maxRecDepth 100000
noncomputable section
theorem k0 : (Rows.imapSeenRow.wf (OpenSpec.ofChange ((OpenSpec.ofChange Rows.imapSeenSpec).bare))) = true := by kernel_rfl
theorem k1 : (laidOutB Tryz.prog) = true := by kernel_rfl
theorem k2 : (mapsRowed Tryz.prog) = true := by kernel_rfl
theorem k3 : (Tryz.f5.params.all (Tryz.prog.readableRec ·)) = true := by kernel_rfl
theorem k4 : (namedTie Tryz.prog Rows.imapSeenRow.named ((OpenSpec.ofChange Rows.imapSeenSpec).bare).vars) = true := by kernel_rfl
theorem k5 : ((Rows.imapSeenRow.stops == [])) = true := by kernel_rfl
theorem k6 : ((Tryz.prog.stops == [])) = true := by kernel_rfl
theorem k7 : ((Rows.imapSeenRow.knobs == [])) = true := by kernel_rfl
theorem k8 : ((Tryz.prog.stopKnobs == [])) = true := by kernel_rfl
theorem k13 : ((Rows.imapSeenRow.maps == (Tryz.f5.params.toList ++ ((OpenSpec.ofChange Rows.imapSeenSpec).bare).plain.varTypes Tryz.prog).any (Tryz.prog.mapsRec ·))) = true := by kernel_rfl
theorem k14 : ((Rows.imapSeenRow.ifaces == (Tryz.f5.params.toList ++ ((OpenSpec.ofChange Rows.imapSeenSpec).bare).plain.varTypes Tryz.prog).any (Tryz.prog.ifacesRec ·))) = true := by kernel_rfl
theorem k15 : ((Rows.imapSeenRow.mapsOut == Tryz.prog.mapsAmong Tryz.f5.resultTypes.toList)) = true := by kernel_rfl
theorem k16 : ((Rows.imapSeenRow.loops == (Tryz.f5.params.toList ++ ((OpenSpec.ofChange Rows.imapSeenSpec).bare).plain.varTypes Tryz.prog).any (Tryz.prog.loopsFrom ·))) = true := by kernel_rfl
theorem k17 : ((Rows.imapSeenRow.wideKeys == (Tryz.f5.params.toList ++ ((OpenSpec.ofChange Rows.imapSeenSpec).bare).plain.varTypes Tryz.prog ++ Tryz.f5.resultTypes.toList).any (Tryz.prog.wideKeysFrom ·))) = true := by kernel_rfl
theorem k18 : (((OpenSpec.ofChange Rows.imapSeenSpec).bare).vars.all (Tryz.prog.varReadable ·)) = true := by kernel_rfl
theorem k19 : (Tryz.f5.resultTypes.all (fun t => Tryz.prog.readableRec t && decide (t < Tryz.prog.types.size))) = true := by kernel_rfl
theorem k20 : ((Rows.imapSeenRow.ifacesOut == Tryz.f5.resultTypes.toList.any (Tryz.prog.ifacesRec ·))) = true := by kernel_rfl
theorem k21 : ((Rows.imapSeenRow.loopsOut == Tryz.f5.resultTypes.toList.any (Tryz.prog.loopsFrom ·))) = true := by kernel_rfl
theorem k22 : ((Rows.imapSeenRow.plainKeys == Tryz.prog.plainKeys)) = true := by kernel_rfl
theorem k23 : (Rows.imapSeenRow.shortTexts.isNone) = true := by kernel_rfl
theorem k24 : (Tryz.prog.stopsHeard) = true := by kernel_rfl
theorem k25 : (Tryz.prog.mayEnter) = true := by kernel_rfl
theorem k26 : ((Rows.imapSeenRow.lifted == Tryz.prog.liftsFinal)) = true := by kernel_rfl
theorem k27 : ((Tryz.prog.make == some Rows.imapSeenRow.make)) = true := by kernel_rfl
theorem k28 : ((Rows.imapSeenRow.kinds == (if Rows.imapSeenRow.domain.isEmpty then [] else Tryz.f5.params.toList.map fun t => match Tryz.prog.underlying t with | some (.int k) => some k | _ => none))) = true := by kernel_rfl
theorem k29 : ((Rows.imapSeenRow.pinned == Rows.imapSeenRow.pinnedBy)) = true := by kernel_rfl
theorem k30 : ((Rows.imapSeenRow.veiled == (Tryz.f5.params.toList ++ ((OpenSpec.ofChange Rows.imapSeenSpec).bare).plain.varTypes Tryz.prog ++ Tryz.f5.resultTypes.toList).any (Tryz.prog.veiledRec ·))) = true := by kernel_rfl
theorem k31 : (Rows.imapSeenRow.veiledFits Tryz.prog Tryz.f5.params.toList (Tryz.f5.params.toList ++ ((OpenSpec.ofChange Rows.imapSeenSpec).bare).plain.varTypes Tryz.prog ++ Tryz.f5.resultTypes.toList)) = true := by kernel_rfl
end
end Go.Proofs.YtlafgccdobeinaaGreatDoor.ImapSeenZ
