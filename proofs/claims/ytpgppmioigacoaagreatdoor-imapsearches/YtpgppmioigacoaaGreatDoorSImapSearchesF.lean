/- Part of the claim: facts that its last text uses. No conditions. -/
import Derived.Test.YtpgppmioigacoaaGreatDoorRows
import Derived.LaidByTextLater
import Derived.SevenTiedAt
import Derived.Test.YtpgppmioigacoaaGreatDoorChecked
import Derived.KernelRfl
import Derived.Test.YtpgppmioigacoaaGreatDoorSTE
import Derived.JoinedOf
set_option linter.all false
namespace Go.Proofs.YtpgppmioigacoaaGreatDoor.ImapSearchesZ
open Go Go.Proofs Go.Proofs.YtpgppmioigacoaaGreatDoor
set_option maxRecDepth 100000
noncomputable section
theorem k0 : (Rows.imapSearchesRow.wf (OpenSpec.ofChange ((OpenSpec.ofChange Rows.imapSearchesSpec).bare))) = true := by kernel_rfl
theorem k1 : (laidOutB Tryz.prog) = true := Go.Proofs.YtpgppmioigacoaaGreatDoor.OwnLaid.laidOutP
theorem k2 : (mapsRowed Tryz.prog) = true := by kernel_rfl
theorem k3 : (Tryz.f6.params.all (Tryz.prog.readableRec ·)) = true := by kernel_rfl
theorem k4 : (namedTie Tryz.prog Rows.imapSearchesRow.named ((OpenSpec.ofChange Rows.imapSearchesSpec).bare).vars) = true := by kernel_rfl
theorem k5 : ((Rows.imapSearchesRow.stops == [])) = true := by kernel_rfl
theorem k6 : ((Tryz.prog.stops == [])) = true := by kernel_rfl
theorem k7 : ((Rows.imapSearchesRow.knobs == [])) = true := by kernel_rfl
theorem k8 : ((Tryz.prog.stopKnobs == [])) = true := by kernel_rfl
theorem k13 : ((Rows.imapSearchesRow.maps == (Tryz.f6.params.toList ++ ((OpenSpec.ofChange Rows.imapSearchesSpec).bare).plain.varTypes Tryz.prog).any (Tryz.prog.mapsRec ·))) = true := by kernel_rfl
theorem k14 : ((Rows.imapSearchesRow.ifaces == (Tryz.f6.params.toList ++ ((OpenSpec.ofChange Rows.imapSearchesSpec).bare).plain.varTypes Tryz.prog).any (Tryz.prog.ifacesRec ·))) = true := by kernel_rfl
theorem k15 : ((Rows.imapSearchesRow.mapsOut == Tryz.prog.mapsAmong Tryz.f6.resultTypes.toList)) = true := by kernel_rfl
theorem k16 : ((Rows.imapSearchesRow.loops == (Tryz.f6.params.toList ++ ((OpenSpec.ofChange Rows.imapSearchesSpec).bare).plain.varTypes Tryz.prog).any (Tryz.prog.loopsFrom ·))) = true := by kernel_rfl
theorem k17 : ((Rows.imapSearchesRow.wideKeys == (Tryz.f6.params.toList ++ ((OpenSpec.ofChange Rows.imapSearchesSpec).bare).plain.varTypes Tryz.prog ++ Tryz.f6.resultTypes.toList).any (Tryz.prog.wideKeysFrom ·))) = true := by kernel_rfl
theorem k18 : (((OpenSpec.ofChange Rows.imapSearchesSpec).bare).vars.all (Tryz.prog.varReadable ·)) = true := by kernel_rfl
theorem k19 : (Tryz.f6.resultTypes.all (fun t => Tryz.prog.readableRec t && decide (t < Tryz.prog.types.size))) = true := by kernel_rfl
theorem k20 : ((Rows.imapSearchesRow.ifacesOut == Tryz.f6.resultTypes.toList.any (Tryz.prog.ifacesRec ·))) = true := by kernel_rfl
theorem k21 : ((Rows.imapSearchesRow.loopsOut == Tryz.f6.resultTypes.toList.any (Tryz.prog.loopsFrom ·))) = true := by kernel_rfl
theorem k22 : ((Rows.imapSearchesRow.plainKeys == Tryz.prog.plainKeys)) = true := by kernel_rfl
theorem k23 : (Rows.imapSearchesRow.shortTexts.isNone) = true := by kernel_rfl
theorem k24 : (Tryz.prog.stopsHeard) = true := by kernel_rfl
theorem k25 : (Tryz.prog.mayEnter) = true := by kernel_rfl
theorem k26 : ((Rows.imapSearchesRow.lifted == Tryz.prog.liftsFinal)) = true := by kernel_rfl
theorem k27 : ((Tryz.prog.make == some Rows.imapSearchesRow.make)) = true := by kernel_rfl
theorem k28 : ((Rows.imapSearchesRow.kinds == (if Rows.imapSearchesRow.domain.isEmpty then [] else Tryz.f6.params.toList.map fun t => match Tryz.prog.underlying t with | some (.int k) => some k | _ => none))) = true := by kernel_rfl
theorem k29 : ((Rows.imapSearchesRow.pinned == Rows.imapSearchesRow.pinnedBy)) = true := by kernel_rfl
theorem k30 : ((Rows.imapSearchesRow.veiled == (Tryz.f6.params.toList ++ ((OpenSpec.ofChange Rows.imapSearchesSpec).bare).plain.varTypes Tryz.prog ++ Tryz.f6.resultTypes.toList).any (Tryz.prog.veiledRec ·))) = true := by kernel_rfl
theorem k31 : (Rows.imapSearchesRow.veiledFits Tryz.prog Tryz.f6.params.toList (Tryz.f6.params.toList ++ ((OpenSpec.ofChange Rows.imapSearchesSpec).bare).plain.varTypes Tryz.prog ++ Tryz.f6.resultTypes.toList)) = true := by kernel_rfl
end
end Go.Proofs.YtpgppmioigacoaaGreatDoor.ImapSearchesZ
