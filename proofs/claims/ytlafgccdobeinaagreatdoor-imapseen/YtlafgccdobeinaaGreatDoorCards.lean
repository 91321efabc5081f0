/-
  DERIVED. GIVEN WITH THE SEED: THE CARDS: each row of YtlafgccdobeinaaGreatDoorRows.lean that lists a variable, with what it lists TIED to the program's text (the seventh form; the later family's looks); each row that meets fmt, with fmt's text TOLD by the authors' own Lean function (tested against real Go, not proved from fmt's source: count such statements apart). THE CARD IS WHAT COUNTS. Prove the row's statement (the work); the ties are given (YtlafgccdobeinaaGreatDoorTie.lean); close each card by the builder's one call (the guide's Derived/Test/ToyasCard.lean, 'card_holds'). Laid BY PROGRAM, IN A SANDBOX (cutbox-door.mjs). By AI agents, Wed Nov 11 2026. No macro, syntax, notation, axiom, sorry.
-/
import Derived.Test.YtlafgccdobeinaaGreatDoorRows
import GoSem.ClaimSeven
namespace Go.Proofs.YtlafgccdobeinaaGreatDoor
namespace Rows

/-- THE TIED CARD OF 'pillarboxlaw25.ImapAhead'. -/
def imapAheadCard : Claim7 := { stood := { row := imapAheadRow, standIns := [], harness := (true, "7ff0df5ecdcf28c827d39c84ae619ef303fa733e401a63d679957ead0f0ab6ef"), looks := true }, kinds := [], alts := [], laidByText := true, laidKinds := [.data, .data, .data, .data, .pinned, .pinned], laidTests := true, laidLooks := .later }
def ImapAheadCardSaid : Prop := Claim7.holds Tryz.pinned (.plain (OpenSpec.ofChange imapAheadSpec)) imapAheadCard

/-- THE TIED CARD OF 'pillarboxlaw25.ImapStates'. -/
def imapStatesCard : Claim7 := { stood := { row := imapStatesRow, standIns := [], harness := (true, "7ff0df5ecdcf28c827d39c84ae619ef303fa733e401a63d679957ead0f0ab6ef"), looks := true }, kinds := [], alts := [], laidByText := true, laidKinds := [.data, .data, .data, .data, .pinned, .pinned], laidTests := true, laidLooks := .later }
def ImapStatesCardSaid : Prop := Claim7.holds Tryz.pinned (.plain (OpenSpec.ofChange imapStatesSpec)) imapStatesCard

/-- THE TIED CARD OF 'pillarboxlaw25.ImapSeen'. -/
def imapSeenCard : Claim7 := { stood := { row := imapSeenRow, standIns := [], harness := (true, "7ff0df5ecdcf28c827d39c84ae619ef303fa733e401a63d679957ead0f0ab6ef"), looks := true }, kinds := [], alts := [], laidByText := true, laidKinds := [.data, .data, .data, .data, .pinned, .pinned], laidTests := true, laidLooks := .later }
def ImapSeenCardSaid : Prop := Claim7.holds Tryz.pinned (.plain (OpenSpec.ofChange imapSeenSpec)) imapSeenCard

/-- THE SECOND FORM's CARD OF 'pillarboxlaw25.ImapAhead'. -/
def imapAheadUptoCard : Claim7 := { stood := { row := imapAheadUptoRow, standIns := [], harness := (true, "7ff0df5ecdcf28c827d39c84ae619ef303fa733e401a63d679957ead0f0ab6ef"), looks := true }, kinds := [], alts := [], laidByText := true, laidKinds := [.data, .data, .data, .data, .pinned, .pinned], laidTests := true, laidLooks := .later }
def ImapAheadUptoCardSaid : Prop := Claim7.holds Tryz.pinned (.plain (OpenSpec.upto imapAheadSpec)) imapAheadUptoCard

/-- THE SECOND FORM's CARD OF 'pillarboxlaw25.ImapStates'. -/
def imapStatesUptoCard : Claim7 := { stood := { row := imapStatesUptoRow, standIns := [], harness := (true, "7ff0df5ecdcf28c827d39c84ae619ef303fa733e401a63d679957ead0f0ab6ef"), looks := true }, kinds := [], alts := [], laidByText := true, laidKinds := [.data, .data, .data, .data, .pinned, .pinned], laidTests := true, laidLooks := .later }
def ImapStatesUptoCardSaid : Prop := Claim7.holds Tryz.pinned (.plain (OpenSpec.upto imapStatesSpec)) imapStatesUptoCard

/-- THE SECOND FORM's CARD OF 'pillarboxlaw25.ImapSeen'. -/
def imapSeenUptoCard : Claim7 := { stood := { row := imapSeenUptoRow, standIns := [], harness := (true, "7ff0df5ecdcf28c827d39c84ae619ef303fa733e401a63d679957ead0f0ab6ef"), looks := true }, kinds := [], alts := [], laidByText := true, laidKinds := [.data, .data, .data, .data, .pinned, .pinned], laidTests := true, laidLooks := .later }
def ImapSeenUptoCardSaid : Prop := Claim7.holds Tryz.pinned (.plain (OpenSpec.upto imapSeenSpec)) imapSeenUptoCard
end Rows
end Go.Proofs.YtlafgccdobeinaaGreatDoor
