/-
  DERIVED. GIVEN WITH THE SEED: THE CARDS: each row of YtpgppmioigacoaaGreatDoorRows.lean that lists a variable, with what it lists TIED to the program's text (the seventh form; the later family's looks); each row that meets fmt, with fmt's text TOLD by the authors' own Lean function (tested against real Go, not proved from fmt's source: count such statements apart). THE CARD IS WHAT COUNTS. Prove the row's statement (the work); the ties are given (YtpgppmioigacoaaGreatDoorTie.lean); close each card by the builder's one call (the guide's Derived/Test/ToyasCard.lean, 'card_holds'). Laid BY PROGRAM, IN A SANDBOX (cutbox-door.mjs). By AI agents, Wed Nov 11 2026. No macro, syntax, notation, axiom, sorry.
-/
import Derived.Test.YtpgppmioigacoaaGreatDoorRows
import GoSem.ClaimSeven
namespace Go.Proofs.YtpgppmioigacoaaGreatDoor
namespace Rows

/-- THE TIED CARD OF 'pillarboxlaw25.ImapDrops'. -/
def imapDropsCard : Claim7 := { stood := { row := imapDropsRow, standIns := [], harness := (true, "e85ed3b93e9215b45a842fdae8471cb09fdcc94f50728911e9014c8f3888bdcc"), looks := true }, kinds := [], alts := [], laidByText := true, laidKinds := [.data, .data, .data, .data, .pinned, .pinned], laidTests := true, laidLooks := .later }
def ImapDropsCardSaid : Prop := Claim7.holds Tryz.pinned (.plain (OpenSpec.ofChange imapDropsSpec)) imapDropsCard

/-- THE TIED CARD OF 'pillarboxlaw25.ImapSince'. -/
def imapSinceCard : Claim7 := { stood := { row := imapSinceRow, standIns := [], harness := (true, "e85ed3b93e9215b45a842fdae8471cb09fdcc94f50728911e9014c8f3888bdcc"), looks := true }, kinds := [], alts := [], laidByText := true, laidKinds := [.data, .data, .data, .data, .pinned, .pinned], laidTests := true, laidLooks := .later }
def ImapSinceCardSaid : Prop := Claim7.holds Tryz.pinned (.plain (OpenSpec.ofChange imapSinceSpec)) imapSinceCard

/-- THE TIED CARD OF 'pillarboxlaw25.ImapFlags'. -/
def imapFlagsCard : Claim7 := { stood := { row := imapFlagsRow, standIns := [], harness := (true, "e85ed3b93e9215b45a842fdae8471cb09fdcc94f50728911e9014c8f3888bdcc"), looks := true }, kinds := [], alts := [], laidByText := true, laidKinds := [.data, .data, .data, .data, .pinned, .pinned], laidTests := true, laidLooks := .later }
def ImapFlagsCardSaid : Prop := Claim7.holds Tryz.pinned (.plain (OpenSpec.ofChange imapFlagsSpec)) imapFlagsCard

/-- THE TIED CARD OF 'pillarboxlaw25.ImapSearches'. -/
def imapSearchesCard : Claim7 := { stood := { row := imapSearchesRow, standIns := [], harness := (true, "e85ed3b93e9215b45a842fdae8471cb09fdcc94f50728911e9014c8f3888bdcc"), looks := true }, kinds := [], alts := [], laidByText := true, laidKinds := [.data, .data, .data, .data, .pinned, .pinned], laidTests := true, laidLooks := .later }
def ImapSearchesCardSaid : Prop := Claim7.holds Tryz.pinned (.plain (OpenSpec.ofChange imapSearchesSpec)) imapSearchesCard

/-- THE TIED CARD OF 'pillarboxlaw25.ImapMoves'. -/
def imapMovesCard : Claim7 := { stood := { row := imapMovesRow, standIns := [], harness := (true, "e85ed3b93e9215b45a842fdae8471cb09fdcc94f50728911e9014c8f3888bdcc"), looks := true }, kinds := [], alts := [], laidByText := true, laidKinds := [.data, .data, .data, .data, .pinned, .pinned], laidTests := true, laidLooks := .later }
def ImapMovesCardSaid : Prop := Claim7.holds Tryz.pinned (.plain (OpenSpec.ofChange imapMovesSpec)) imapMovesCard

/-- THE TIED CARD OF 'pillarboxlaw25.ImapSelects'. -/
def imapSelectsCard : Claim7 := { stood := { row := imapSelectsRow, standIns := [], harness := (true, "e85ed3b93e9215b45a842fdae8471cb09fdcc94f50728911e9014c8f3888bdcc"), looks := true }, kinds := [], alts := [], laidByText := true, laidKinds := [.data, .data, .data, .data, .pinned, .pinned], laidTests := true, laidLooks := .later }
def ImapSelectsCardSaid : Prop := Claim7.holds Tryz.pinned (.plain (OpenSpec.ofChange imapSelectsSpec)) imapSelectsCard

/-- THE SECOND FORM's CARD OF 'pillarboxlaw25.ImapDrops'. -/
def imapDropsUptoCard : Claim7 := { stood := { row := imapDropsUptoRow, standIns := [], harness := (true, "e85ed3b93e9215b45a842fdae8471cb09fdcc94f50728911e9014c8f3888bdcc"), looks := true }, kinds := [], alts := [], laidByText := true, laidKinds := [.data, .data, .data, .data, .pinned, .pinned], laidTests := true, laidLooks := .later }
def ImapDropsUptoCardSaid : Prop := Claim7.holds Tryz.pinned (.plain (OpenSpec.upto imapDropsSpec)) imapDropsUptoCard

/-- THE SECOND FORM's CARD OF 'pillarboxlaw25.ImapSince'. -/
def imapSinceUptoCard : Claim7 := { stood := { row := imapSinceUptoRow, standIns := [], harness := (true, "e85ed3b93e9215b45a842fdae8471cb09fdcc94f50728911e9014c8f3888bdcc"), looks := true }, kinds := [], alts := [], laidByText := true, laidKinds := [.data, .data, .data, .data, .pinned, .pinned], laidTests := true, laidLooks := .later }
def ImapSinceUptoCardSaid : Prop := Claim7.holds Tryz.pinned (.plain (OpenSpec.upto imapSinceSpec)) imapSinceUptoCard

/-- THE SECOND FORM's CARD OF 'pillarboxlaw25.ImapFlags'. -/
def imapFlagsUptoCard : Claim7 := { stood := { row := imapFlagsUptoRow, standIns := [], harness := (true, "e85ed3b93e9215b45a842fdae8471cb09fdcc94f50728911e9014c8f3888bdcc"), looks := true }, kinds := [], alts := [], laidByText := true, laidKinds := [.data, .data, .data, .data, .pinned, .pinned], laidTests := true, laidLooks := .later }
def ImapFlagsUptoCardSaid : Prop := Claim7.holds Tryz.pinned (.plain (OpenSpec.upto imapFlagsSpec)) imapFlagsUptoCard

/-- THE SECOND FORM's CARD OF 'pillarboxlaw25.ImapSearches'. -/
def imapSearchesUptoCard : Claim7 := { stood := { row := imapSearchesUptoRow, standIns := [], harness := (true, "e85ed3b93e9215b45a842fdae8471cb09fdcc94f50728911e9014c8f3888bdcc"), looks := true }, kinds := [], alts := [], laidByText := true, laidKinds := [.data, .data, .data, .data, .pinned, .pinned], laidTests := true, laidLooks := .later }
def ImapSearchesUptoCardSaid : Prop := Claim7.holds Tryz.pinned (.plain (OpenSpec.upto imapSearchesSpec)) imapSearchesUptoCard

/-- THE SECOND FORM's CARD OF 'pillarboxlaw25.ImapMoves'. -/
def imapMovesUptoCard : Claim7 := { stood := { row := imapMovesUptoRow, standIns := [], harness := (true, "e85ed3b93e9215b45a842fdae8471cb09fdcc94f50728911e9014c8f3888bdcc"), looks := true }, kinds := [], alts := [], laidByText := true, laidKinds := [.data, .data, .data, .data, .pinned, .pinned], laidTests := true, laidLooks := .later }
def ImapMovesUptoCardSaid : Prop := Claim7.holds Tryz.pinned (.plain (OpenSpec.upto imapMovesSpec)) imapMovesUptoCard

/-- THE SECOND FORM's CARD OF 'pillarboxlaw25.ImapSelects'. -/
def imapSelectsUptoCard : Claim7 := { stood := { row := imapSelectsUptoRow, standIns := [], harness := (true, "e85ed3b93e9215b45a842fdae8471cb09fdcc94f50728911e9014c8f3888bdcc"), looks := true }, kinds := [], alts := [], laidByText := true, laidKinds := [.data, .data, .data, .data, .pinned, .pinned], laidTests := true, laidLooks := .later }
def ImapSelectsUptoCardSaid : Prop := Claim7.holds Tryz.pinned (.plain (OpenSpec.upto imapSelectsSpec)) imapSelectsUptoCard
end Rows
end Go.Proofs.YtpgppmioigacoaaGreatDoor
