/-
  DERIVED. GIVEN WITH THE SEED: THE CARDS: each row of YtlonkmaeghglnaaGreatDoorRows.lean that lists a variable, with what it lists TIED to the program's text (the seventh form; the later family's looks); each row that meets fmt, with fmt's text TOLD by the authors' own Lean function (tested against real Go, not proved from fmt's source: count such statements apart). THE CARD IS WHAT COUNTS. Prove the row's statement (the work); the ties are given (YtlonkmaeghglnaaGreatDoorTie.lean); close each card by the builder's one call (the guide's Derived/Test/ToyasCard.lean, 'card_holds'). Laid BY PROGRAM, IN A SANDBOX (cutbox-door.mjs). By AI agents, Wed Nov 11 2026. No macro, syntax, notation, axiom, sorry.
-/
import Derived.Test.YtlonkmaeghglnaaGreatDoorRows
import GoSem.ClaimSeven
namespace Go.Proofs.YtlonkmaeghglnaaGreatDoor
namespace Rows

/-- THE TIED CARD OF 'pillarboxlaw27.JmapNil'. -/
def jmapNilCard : Claim7 := { stood := { row := jmapNilRow, standIns := [], harness := (true, "a082e11570d2a2896898c436e22fce1dcf66989149e1d6919630cda10cdccf65"), looks := true }, kinds := [], alts := [], laidByText := true, laidKinds := [.data, .data, .data, .data, .pinned], laidTests := true, laidLooks := .later }
def JmapNilCardSaid : Prop := Claim7.holds Tryz.pinned (.plain (OpenSpec.ofChange jmapNilSpec)) jmapNilCard

/-- THE SECOND FORM's CARD OF 'pillarboxlaw27.JmapNil'. -/
def jmapNilUptoCard : Claim7 := { stood := { row := jmapNilUptoRow, standIns := [], harness := (true, "a082e11570d2a2896898c436e22fce1dcf66989149e1d6919630cda10cdccf65"), looks := true }, kinds := [], alts := [], laidByText := true, laidKinds := [.data, .data, .data, .data, .pinned], laidTests := true, laidLooks := .later }
def JmapNilUptoCardSaid : Prop := Claim7.holds Tryz.pinned (.plain (OpenSpec.upto jmapNilSpec)) jmapNilUptoCard
end Rows
end Go.Proofs.YtlonkmaeghglnaaGreatDoor
