/-
  DERIVED. GIVEN WITH THE SEED: THE CARDS: each row of YtlcpojnlmgkkcaaGreatDoorRows.lean that lists a variable, with what it lists TIED to the program's text (the seventh form; the later family's looks); each row that meets fmt, with fmt's text TOLD by the authors' own Lean function (tested against real Go, not proved from fmt's source: count such statements apart). THE CARD IS WHAT COUNTS. Prove the row's statement (the work); the ties are given (YtlcpojnlmgkkcaaGreatDoorTie.lean); close each card by the builder's one call (the guide's Derived/Test/ToyasCard.lean, 'card_holds'). Laid BY PROGRAM, IN A SANDBOX (cutbox-door.mjs). By AI agents, Wed Nov 11 2026. No macro, syntax, notation, axiom, sorry.
-/
import Derived.Test.YtlcpojnlmgkkcaaGreatDoorRows
import GoSem.ClaimSeven
namespace Go.Proofs.YtlcpojnlmgkkcaaGreatDoor
namespace Rows

/-- THE TIED CARD OF 'pillarboxlaw25.ImapAlone'. -/
def imapAloneCard : Claim7 := { stood := { row := imapAloneRow, standIns := [], harness := (true, "6fc6df219e93dff70fc9724de19218a9e61e0784c3a5af4a9ce0d674a51cfd21"), looks := true }, kinds := [], alts := [], laidByText := true, laidKinds := [.data, .data, .data, .data, .pinned, .pinned], laidTests := true, laidLooks := .later }
def ImapAloneCardSaid : Prop := Claim7.holds Tryz.pinned (.plain (OpenSpec.ofChange imapAloneSpec)) imapAloneCard

/-- THE SECOND FORM's CARD OF 'pillarboxlaw25.ImapAlone'. -/
def imapAloneUptoCard : Claim7 := { stood := { row := imapAloneUptoRow, standIns := [], harness := (true, "6fc6df219e93dff70fc9724de19218a9e61e0784c3a5af4a9ce0d674a51cfd21"), looks := true }, kinds := [], alts := [], laidByText := true, laidKinds := [.data, .data, .data, .data, .pinned, .pinned], laidTests := true, laidLooks := .later }
def ImapAloneUptoCardSaid : Prop := Claim7.holds Tryz.pinned (.plain (OpenSpec.upto imapAloneSpec)) imapAloneUptoCard
end Rows
end Go.Proofs.YtlcpojnlmgkkcaaGreatDoor
