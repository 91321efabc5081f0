/-
  DERIVED. GIVEN WITH THE SEED: THE CARDS: each row of YtnlbcbjgejpanaaGreatDoorRows.lean that lists a variable, with what it lists TIED to the program's text (the seventh form; the later family's looks); each row that meets fmt, with fmt's text TOLD by the authors' own Lean function (tested against real Go, not proved from fmt's source: count such statements apart). THE CARD IS WHAT COUNTS. Prove the row's statement (the work); the ties are given (YtnlbcbjgejpanaaGreatDoorTie.lean); close each card by the builder's one call (the guide's Derived/Test/ToyasCard.lean, 'card_holds'). Laid BY PROGRAM, IN A SANDBOX (cutbox-door.mjs). By AI agents, Wed Nov 11 2026. No macro, syntax, notation, axiom, sorry.
-/
import Derived.Test.YtnlbcbjgejpanaaGreatDoorRows
import GoSem.ClaimSeven
namespace Go.Proofs.YtnlbcbjgejpanaaGreatDoor
namespace Rows

/-- THE TIED CARD OF 'pillarboxlaw28.ServerTicks'. -/
def serverTicksCard : Claim7 := { stood := { row := serverTicksRow, standIns := [], harness := (true, "a5718a0e2fd56c3ec4da7ecc28b116b4da89ccf0b898a2a533adfe442bcb7237"), looks := true }, kinds := [], alts := [], laidByText := true, laidKinds := [.pinned, .data, .data, .data, .data, .pinned], laidTests := true, laidLooks := .later }
def ServerTicksCardSaid : Prop := Claim7.holds Tryz.pinned (.plain (OpenSpec.ofChange serverTicksSpec)) serverTicksCard

/-- THE TIED CARD OF 'pillarboxlaw28.ServerEnds'. -/
def serverEndsCard : Claim7 := { stood := { row := serverEndsRow, standIns := [], harness := (true, "a5718a0e2fd56c3ec4da7ecc28b116b4da89ccf0b898a2a533adfe442bcb7237"), looks := true }, kinds := [], alts := [], laidByText := true, laidKinds := [.pinned, .data, .data, .data, .data, .pinned], laidTests := true, laidLooks := .later }
def ServerEndsCardSaid : Prop := Claim7.holds Tryz.pinned (.plain (OpenSpec.ofChange serverEndsSpec)) serverEndsCard

/-- THE SECOND FORM's CARD OF 'pillarboxlaw28.ServerTicks'. -/
def serverTicksUptoCard : Claim7 := { stood := { row := serverTicksUptoRow, standIns := [], harness := (true, "a5718a0e2fd56c3ec4da7ecc28b116b4da89ccf0b898a2a533adfe442bcb7237"), looks := true }, kinds := [], alts := [], laidByText := true, laidKinds := [.pinned, .data, .data, .data, .data, .pinned], laidTests := true, laidLooks := .later }
def ServerTicksUptoCardSaid : Prop := Claim7.holds Tryz.pinned (.plain (OpenSpec.upto serverTicksSpec)) serverTicksUptoCard

/-- THE SECOND FORM's CARD OF 'pillarboxlaw28.ServerEnds'. -/
def serverEndsUptoCard : Claim7 := { stood := { row := serverEndsUptoRow, standIns := [], harness := (true, "a5718a0e2fd56c3ec4da7ecc28b116b4da89ccf0b898a2a533adfe442bcb7237"), looks := true }, kinds := [], alts := [], laidByText := true, laidKinds := [.pinned, .data, .data, .data, .data, .pinned], laidTests := true, laidLooks := .later }
def ServerEndsUptoCardSaid : Prop := Claim7.holds Tryz.pinned (.plain (OpenSpec.upto serverEndsSpec)) serverEndsUptoCard
end Rows
end Go.Proofs.YtnlbcbjgejpanaaGreatDoor
