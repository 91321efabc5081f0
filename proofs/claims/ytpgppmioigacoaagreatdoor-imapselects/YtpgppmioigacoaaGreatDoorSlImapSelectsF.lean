/- Part of the value machine, or of a walk by it: lemmas that the claim's last text uses. No conditions. -/
import Derived.Test.YtpgppmioigacoaaGreatDoorRows
import Derived.LaidByTextLater
import Derived.SevenTiedAt
import Derived.Test.YtpgppmioigacoaaGreatDoorChecked
import Derived.KernelRfl
import Derived.Test.YtpgppmioigacoaaGreatDoorSlTE
import Derived.JoinedOf
set_option linter.unusedVariables false
set_option linter.unusedSimpArgs false
set_option linter.unnecessarySimpa false
namespace Go.Proofs.YtpgppmioigacoaaGreatDoor.ImapSelectsZ
open Go Go.Proofs Go.Proofs.YtpgppmioigacoaaGreatDoor
set_option maxRecDepth 100000
noncomputable section
theorem k0 : (Rows.imapSelectsRow.wf (OpenSpec.ofChange ((OpenSpec.ofChange Rows.imapSelectsSpec).bare))) = true := by kernel_rfl
theorem k1 : (laidOutB Tryz.prog) = true := Go.Proofs.YtpgppmioigacoaaGreatDoor.OwnLaid.laidOutP
theorem k2 : (mapsRowed Tryz.prog) = true := by kernel_rfl
theorem k3 : (Tryz.f8.params.all (Tryz.prog.readableRec ·)) = true := by kernel_rfl
theorem k4 : (namedTie Tryz.prog Rows.imapSelectsRow.named ((OpenSpec.ofChange Rows.imapSelectsSpec).bare).vars) = true := by kernel_rfl
theorem k5 : ((Rows.imapSelectsRow.stops == [])) = true := by kernel_rfl
theorem k6 : ((Tryz.prog.stops == [])) = true := by kernel_rfl
theorem k7 : ((Rows.imapSelectsRow.knobs == [])) = true := by kernel_rfl
theorem k8 : ((Tryz.prog.stopKnobs == [])) = true := by kernel_rfl
theorem k13 : ((Rows.imapSelectsRow.maps == (Tryz.f8.params.toList ++ ((OpenSpec.ofChange Rows.imapSelectsSpec).bare).plain.varTypes Tryz.prog).any (Tryz.prog.mapsRec ·))) = true := by kernel_rfl
theorem k14 : ((Rows.imapSelectsRow.ifaces == (Tryz.f8.params.toList ++ ((OpenSpec.ofChange Rows.imapSelectsSpec).bare).plain.varTypes Tryz.prog).any (Tryz.prog.ifacesRec ·))) = true := by kernel_rfl
theorem k15 : ((Rows.imapSelectsRow.mapsOut == Tryz.prog.mapsAmong Tryz.f8.resultTypes.toList)) = true := by kernel_rfl
theorem k16 : ((Rows.imapSelectsRow.loops == (Tryz.f8.params.toList ++ ((OpenSpec.ofChange Rows.imapSelectsSpec).bare).plain.varTypes Tryz.prog).any (Tryz.prog.loopsFrom ·))) = true := by kernel_rfl
theorem k17 : ((Rows.imapSelectsRow.wideKeys == (Tryz.f8.params.toList ++ ((OpenSpec.ofChange Rows.imapSelectsSpec).bare).plain.varTypes Tryz.prog ++ Tryz.f8.resultTypes.toList).any (Tryz.prog.wideKeysFrom ·))) = true := by kernel_rfl
theorem k18 : (((OpenSpec.ofChange Rows.imapSelectsSpec).bare).vars.all (Tryz.prog.varReadable ·)) = true := by kernel_rfl
theorem k19 : (Tryz.f8.resultTypes.all (fun t => Tryz.prog.readableRec t && decide (t < Tryz.prog.types.size))) = true := by kernel_rfl
theorem k20 : ((Rows.imapSelectsRow.ifacesOut == Tryz.f8.resultTypes.toList.any (Tryz.prog.ifacesRec ·))) = true := by kernel_rfl
theorem k21 : ((Rows.imapSelectsRow.loopsOut == Tryz.f8.resultTypes.toList.any (Tryz.prog.loopsFrom ·))) = true := by kernel_rfl
theorem k22 : ((Rows.imapSelectsRow.plainKeys == Tryz.prog.plainKeys)) = true := by kernel_rfl
theorem k23 : (Rows.imapSelectsRow.shortTexts.isNone) = true := by kernel_rfl
theorem k24 : (Tryz.prog.stopsHeard) = true := by kernel_rfl
theorem k25 : (Tryz.prog.mayEnter) = true := by kernel_rfl
theorem k26 : ((Rows.imapSelectsRow.lifted == Tryz.prog.liftsFinal)) = true := by kernel_rfl
theorem k27 : ((Tryz.prog.make == some Rows.imapSelectsRow.make)) = true := by kernel_rfl
theorem k28 : ((Rows.imapSelectsRow.kinds == (if Rows.imapSelectsRow.domain.isEmpty then [] else Tryz.f8.params.toList.map fun t => match Tryz.prog.underlying t with | some (.int k) => some k | _ => none))) = true := by kernel_rfl
theorem k29 : ((Rows.imapSelectsRow.pinned == Rows.imapSelectsRow.pinnedBy)) = true := by kernel_rfl
theorem k30 : ((Rows.imapSelectsRow.veiled == (Tryz.f8.params.toList ++ ((OpenSpec.ofChange Rows.imapSelectsSpec).bare).plain.varTypes Tryz.prog ++ Tryz.f8.resultTypes.toList).any (Tryz.prog.veiledRec ·))) = true := by kernel_rfl
theorem k31 : (Rows.imapSelectsRow.veiledFits Tryz.prog Tryz.f8.params.toList (Tryz.f8.params.toList ++ ((OpenSpec.ofChange Rows.imapSelectsSpec).bare).plain.varTypes Tryz.prog ++ Tryz.f8.resultTypes.toList)) = true := by kernel_rfl
end
end Go.Proofs.YtpgppmioigacoaaGreatDoor.ImapSelectsZ
