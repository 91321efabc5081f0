/- Part of the claim: facts that its last text uses. No conditions. -/
import Derived.Test.YtpgppmioigacoaaGreatDoorRows
import Derived.LaidByTextLater
import Derived.SevenTiedAt
import Derived.Test.YtpgppmioigacoaaGreatDoorChecked
import Derived.KernelRfl
import Derived.Test.YtpgppmioigacoaaGreatDoorFTE
import Derived.JoinedOf
set_option linter.all false
namespace Go.Proofs.YtpgppmioigacoaaGreatDoor.ImapFlagsZ
open Go Go.Proofs Go.Proofs.YtpgppmioigacoaaGreatDoor
set_option maxRecDepth 100000
noncomputable section
theorem k0 : (Rows.imapFlagsRow.wf (OpenSpec.ofChange ((OpenSpec.ofChange Rows.imapFlagsSpec).bare))) = true := by kernel_rfl
theorem k1 : (laidOutB Tryz.prog) = true := Go.Proofs.YtpgppmioigacoaaGreatDoor.OwnLaid.laidOutP
theorem k2 : (mapsRowed Tryz.prog) = true := by kernel_rfl
theorem k3 : (Tryz.f5.params.all (Tryz.prog.readableRec ·)) = true := by kernel_rfl
theorem k4 : (namedTie Tryz.prog Rows.imapFlagsRow.named ((OpenSpec.ofChange Rows.imapFlagsSpec).bare).vars) = true := by kernel_rfl
theorem k5 : ((Rows.imapFlagsRow.stops == [])) = true := by kernel_rfl
theorem k6 : ((Tryz.prog.stops == [])) = true := by kernel_rfl
theorem k7 : ((Rows.imapFlagsRow.knobs == [])) = true := by kernel_rfl
theorem k8 : ((Tryz.prog.stopKnobs == [])) = true := by kernel_rfl
theorem k13 : ((Rows.imapFlagsRow.maps == (Tryz.f5.params.toList ++ ((OpenSpec.ofChange Rows.imapFlagsSpec).bare).plain.varTypes Tryz.prog).any (Tryz.prog.mapsRec ·))) = true := by kernel_rfl
theorem k14 : ((Rows.imapFlagsRow.ifaces == (Tryz.f5.params.toList ++ ((OpenSpec.ofChange Rows.imapFlagsSpec).bare).plain.varTypes Tryz.prog).any (Tryz.prog.ifacesRec ·))) = true := by kernel_rfl
theorem k15 : ((Rows.imapFlagsRow.mapsOut == Tryz.prog.mapsAmong Tryz.f5.resultTypes.toList)) = true := by kernel_rfl
theorem k16 : ((Rows.imapFlagsRow.loops == (Tryz.f5.params.toList ++ ((OpenSpec.ofChange Rows.imapFlagsSpec).bare).plain.varTypes Tryz.prog).any (Tryz.prog.loopsFrom ·))) = true := by kernel_rfl
theorem k17 : ((Rows.imapFlagsRow.wideKeys == (Tryz.f5.params.toList ++ ((OpenSpec.ofChange Rows.imapFlagsSpec).bare).plain.varTypes Tryz.prog ++ Tryz.f5.resultTypes.toList).any (Tryz.prog.wideKeysFrom ·))) = true := by kernel_rfl
theorem k18 : (((OpenSpec.ofChange Rows.imapFlagsSpec).bare).vars.all (Tryz.prog.varReadable ·)) = true := by kernel_rfl
theorem k19 : (Tryz.f5.resultTypes.all (fun t => Tryz.prog.readableRec t && decide (t < Tryz.prog.types.size))) = true := by kernel_rfl
theorem k20 : ((Rows.imapFlagsRow.ifacesOut == Tryz.f5.resultTypes.toList.any (Tryz.prog.ifacesRec ·))) = true := by kernel_rfl
theorem k21 : ((Rows.imapFlagsRow.loopsOut == Tryz.f5.resultTypes.toList.any (Tryz.prog.loopsFrom ·))) = true := by kernel_rfl
theorem k22 : ((Rows.imapFlagsRow.plainKeys == Tryz.prog.plainKeys)) = true := by kernel_rfl
theorem k23 : (Rows.imapFlagsRow.shortTexts.isNone) = true := by kernel_rfl
theorem k24 : (Tryz.prog.stopsHeard) = true := by kernel_rfl
theorem k25 : (Tryz.prog.mayEnter) = true := by kernel_rfl
theorem k26 : ((Rows.imapFlagsRow.lifted == Tryz.prog.liftsFinal)) = true := by kernel_rfl
theorem k27 : ((Tryz.prog.make == some Rows.imapFlagsRow.make)) = true := by kernel_rfl
theorem k28 : ((Rows.imapFlagsRow.kinds == (if Rows.imapFlagsRow.domain.isEmpty then [] else Tryz.f5.params.toList.map fun t => match Tryz.prog.underlying t with | some (.int k) => some k | _ => none))) = true := by kernel_rfl
theorem k29 : ((Rows.imapFlagsRow.pinned == Rows.imapFlagsRow.pinnedBy)) = true := by kernel_rfl
theorem k30 : ((Rows.imapFlagsRow.veiled == (Tryz.f5.params.toList ++ ((OpenSpec.ofChange Rows.imapFlagsSpec).bare).plain.varTypes Tryz.prog ++ Tryz.f5.resultTypes.toList).any (Tryz.prog.veiledRec ·))) = true := by kernel_rfl
theorem k31 : (Rows.imapFlagsRow.veiledFits Tryz.prog Tryz.f5.params.toList (Tryz.f5.params.toList ++ ((OpenSpec.ofChange Rows.imapFlagsSpec).bare).plain.varTypes Tryz.prog ++ Tryz.f5.resultTypes.toList)) = true := by kernel_rfl
end
end Go.Proofs.YtpgppmioigacoaaGreatDoor.ImapFlagsZ
