/-
  DERIVED. GIVEN WITH THE SEED: THE CARDS: each row of YtghbifaaedobfaaGreatDoorRows.lean that lists a variable, with what it lists TIED to the program's text (the seventh form; the later family's looks); each row that meets fmt, with fmt's text TOLD by the authors' own Lean function (tested against real Go, not proved from fmt's source: count such statements apart). THE CARD IS WHAT COUNTS. Prove the row's statement (the work); the ties are given (YtghbifaaedobfaaGreatDoorTie.lean); close each card by the builder's one call (the guide's Derived/Test/ToyasCard.lean, 'card_holds'). Laid BY PROGRAM, IN A SANDBOX (cutbox-door.mjs). By AI agents, Wed Nov 11 2026. No macro, syntax, notation, axiom, sorry.
-/
import Derived.Test.YtghbifaaedobfaaGreatDoorRows
import GoSem.ClaimSeven
namespace Go.Proofs.YtghbifaaedobfaaGreatDoor
namespace Rows

/-- THE TIED CARD OF 'pillarboxlaw28.ServerNil'. -/
def serverNilCard : Claim7 := { stood := { row := serverNilRow, standIns := [], harness := (true, "4051b7ffcdca28eb8afe4752508b6b112b3e4e246df21d5f55aa95fd832ae241"), looks := true }, kinds := [], alts := [], laidByText := true, laidKinds := [.pinned, .data, .data, .data, .data, .pinned], laidTests := true, laidLooks := .later }
def ServerNilCardSaid : Prop := Claim7.holds Tryz.pinned (.plain (OpenSpec.ofChange serverNilSpec)) serverNilCard

/-- THE TIED CARD OF 'pillarboxlaw28.ServerOthers'. -/
def serverOthersCard : Claim7 := { stood := { row := serverOthersRow, standIns := [], harness := (true, "4051b7ffcdca28eb8afe4752508b6b112b3e4e246df21d5f55aa95fd832ae241"), looks := true }, kinds := [], alts := [], laidByText := true, laidKinds := [.pinned, .data, .data, .data, .data, .pinned], laidTests := true, laidLooks := .later }
def ServerOthersCardSaid : Prop := Claim7.holds Tryz.pinned (.plain (OpenSpec.ofChange serverOthersSpec)) serverOthersCard

/-- THE SECOND FORM's CARD OF 'pillarboxlaw28.ServerNil'. -/
def serverNilUptoCard : Claim7 := { stood := { row := serverNilUptoRow, standIns := [], harness := (true, "4051b7ffcdca28eb8afe4752508b6b112b3e4e246df21d5f55aa95fd832ae241"), looks := true }, kinds := [], alts := [], laidByText := true, laidKinds := [.pinned, .data, .data, .data, .data, .pinned], laidTests := true, laidLooks := .later }
def ServerNilUptoCardSaid : Prop := Claim7.holds Tryz.pinned (.plain (OpenSpec.upto serverNilSpec)) serverNilUptoCard

/-- THE SECOND FORM's CARD OF 'pillarboxlaw28.ServerOthers'. -/
def serverOthersUptoCard : Claim7 := { stood := { row := serverOthersUptoRow, standIns := [], harness := (true, "4051b7ffcdca28eb8afe4752508b6b112b3e4e246df21d5f55aa95fd832ae241"), looks := true }, kinds := [], alts := [], laidByText := true, laidKinds := [.pinned, .data, .data, .data, .data, .pinned], laidTests := true, laidLooks := .later }
def ServerOthersUptoCardSaid : Prop := Claim7.holds Tryz.pinned (.plain (OpenSpec.upto serverOthersSpec)) serverOthersUptoCard
end Rows
end Go.Proofs.YtghbifaaedobfaaGreatDoor
