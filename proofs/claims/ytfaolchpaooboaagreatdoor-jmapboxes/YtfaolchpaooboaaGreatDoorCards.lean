/-
  DERIVED. GIVEN WITH THE SEED: THE CARDS: each row of YtfaolchpaooboaaGreatDoorRows.lean that lists a variable, with what it lists TIED to the program's text (the seventh form; the later family's looks); each row that meets fmt, with fmt's text TOLD by the authors' own Lean function (tested against real Go, not proved from fmt's source: count such statements apart). THE CARD IS WHAT COUNTS. Prove the row's statement (the work); the ties are given (YtfaolchpaooboaaGreatDoorTie.lean); close each card by the builder's one call (the guide's Derived/Test/ToyasCard.lean, 'card_holds'). Laid BY PROGRAM, IN A SANDBOX (cutbox-door.mjs). By AI agents, Wed Nov 11 2026. No macro, syntax, notation, axiom, sorry.
-/
import Derived.Test.YtfaolchpaooboaaGreatDoorRows
import GoSem.ClaimSeven
namespace Go.Proofs.YtfaolchpaooboaaGreatDoor
namespace Rows

/-- THE TIED CARD OF 'pillarboxlaw27.JmapForgets'. -/
def jmapForgetsCard : Claim7 := { stood := { row := jmapForgetsRow, standIns := [], harness := (true, "37708a52cbf39b30cbd866f0aebe251f7d2aea1f11127a5edc41d16b4f53dd75"), looks := true }, kinds := [], alts := [], laidByText := true, laidKinds := [.data, .data, .data, .data, .pinned], laidTests := true, laidLooks := .later }
def JmapForgetsCardSaid : Prop := Claim7.holds Tryz.pinned (.plain (OpenSpec.ofChange jmapForgetsSpec)) jmapForgetsCard

/-- THE TIED CARD OF 'pillarboxlaw27.JmapBoxes'. -/
def jmapBoxesCard : Claim7 := { stood := { row := jmapBoxesRow, standIns := [], harness := (true, "37708a52cbf39b30cbd866f0aebe251f7d2aea1f11127a5edc41d16b4f53dd75"), looks := true }, kinds := [], alts := [], laidByText := true, laidKinds := [.data, .data, .data, .data, .pinned], laidTests := true, laidLooks := .later }
def JmapBoxesCardSaid : Prop := Claim7.holds Tryz.pinned (.plain (OpenSpec.ofChange jmapBoxesSpec)) jmapBoxesCard

/-- THE SECOND FORM's CARD OF 'pillarboxlaw27.JmapForgets'. -/
def jmapForgetsUptoCard : Claim7 := { stood := { row := jmapForgetsUptoRow, standIns := [], harness := (true, "37708a52cbf39b30cbd866f0aebe251f7d2aea1f11127a5edc41d16b4f53dd75"), looks := true }, kinds := [], alts := [], laidByText := true, laidKinds := [.data, .data, .data, .data, .pinned], laidTests := true, laidLooks := .later }
def JmapForgetsUptoCardSaid : Prop := Claim7.holds Tryz.pinned (.plain (OpenSpec.upto jmapForgetsSpec)) jmapForgetsUptoCard

/-- THE SECOND FORM's CARD OF 'pillarboxlaw27.JmapBoxes'. -/
def jmapBoxesUptoCard : Claim7 := { stood := { row := jmapBoxesUptoRow, standIns := [], harness := (true, "37708a52cbf39b30cbd866f0aebe251f7d2aea1f11127a5edc41d16b4f53dd75"), looks := true }, kinds := [], alts := [], laidByText := true, laidKinds := [.data, .data, .data, .data, .pinned], laidTests := true, laidLooks := .later }
def JmapBoxesUptoCardSaid : Prop := Claim7.holds Tryz.pinned (.plain (OpenSpec.upto jmapBoxesSpec)) jmapBoxesUptoCard
end Rows
end Go.Proofs.YtfaolchpaooboaaGreatDoor
