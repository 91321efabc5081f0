/-
  No cell of these rows narrows 'for every input' (looked for: loops, veiled, ifaces, maps, wideKeys, modest, calm, conditions, laid).
  DERIVED. THE GIVEN ROWS OF THIS SEAT. 5 by the template 'for every input the law returns true; each argument reads behind the call as it read before'; 0 by the template 'total and deterministic' (their statements: YtmlbnkojodkieaaTotals.lean).
  GIVEN WITH THE SEED: the statements are not yours to turn. If you find one false, say at which input.
  Laid BY PROGRAM, IN A SANDBOX (cutbox-rows.mjs): the forced cells as the released guide's own fill.sh prints them over the translation 06d15d174a76277f… (all of the seat's roots in one cut). By AI agents, Wed Nov 11 2026. No macro, syntax, notation, axiom, sorry.
-/
import Derived.Test.YtmlbnkojodkieaaChecked
import GoSem.Claim
import GoSem.ClaimJoined
import GoSem.ClaimMapViews
import Derived.JoinedTies
import Derived.KernelRfl
namespace Go.Proofs.Ytmlbnkojodkieaa
/- THE CELL 'sum', in the pinned program and in every row, IS THE sha256 OF THE DUMP (.gsa) THAT YtmlbnkojodkieaaProg.lean LOADS. Nothing in Lean hashes anything: it is a label: what it is worth is what the hold of that sum in a sandbox is worth. -/
noncomputable def Try.pinned : Pinned := { name := "ytmlbnkojodkieaa", sum := "06d15d174a76277f2f02580c708199123e03937a28f681d441fcbda6a635812e", checked := Try.checked }
namespace Rows
def none {H : Type} : Left H := { results := [], args := [] }

/-- 'pillarboxlaw20.DiffTakes': WHATEVER THE INPUT: true; the input reads as it did. -/
def diffTakesSpec : ChangeSpec := { name := "diffTakes", fn := fun _ => fun
  | [d1, d2, d3] => { results := [.lit (.bool true)], args := [d1, d2, d3] }
  | _ => none }
def diffTakesRow : OpenClaim := { program := "ytmlbnkojodkieaa", sum := "06d15d174a76277f2f02580c708199123e03937a28f681d441fcbda6a635812e", func := "pillarbox/pillarboxlaw20.DiffTakes", spec := "diffTakes", apart := false }
def DiffTakesSaid : Prop := diffTakesRow.holds Try.pinned (OpenSpec.ofChange diffTakesSpec)

/-- ITS FALSE NEIGHBOUR: 'it returns false'. Refute it at one input. -/
def diffTakesWrong : ChangeSpec := { name := "diffTakes", fn := fun _ => fun
  | [d1, d2, d3] => { results := [.lit (.bool false)], args := [d1, d2, d3] }
  | _ => none }
def DiffTakesWrongFalsely : Prop := diffTakesRow.holds Try.pinned (OpenSpec.ofChange diffTakesWrong)

/-- 'pillarboxlaw20.DiffAll': WHATEVER THE INPUT: true; the input reads as it did. -/
def diffAllSpec : ChangeSpec := { name := "diffAll", fn := fun _ => fun
  | [d1, d2, d3, d4] => { results := [.lit (.bool true)], args := [d1, d2, d3, d4] }
  | _ => none }
def diffAllRow : OpenClaim := { program := "ytmlbnkojodkieaa", sum := "06d15d174a76277f2f02580c708199123e03937a28f681d441fcbda6a635812e", func := "pillarbox/pillarboxlaw20.DiffAll", spec := "diffAll", inPlace := ["slices.overlaps[int]"], apart := false }
def DiffAllSaid : Prop := diffAllRow.holds Try.pinned (OpenSpec.ofChange diffAllSpec)

/-- ITS FALSE NEIGHBOUR: 'it returns false'. Refute it at one input. -/
def diffAllWrong : ChangeSpec := { name := "diffAll", fn := fun _ => fun
  | [d1, d2, d3, d4] => { results := [.lit (.bool false)], args := [d1, d2, d3, d4] }
  | _ => none }
def DiffAllWrongFalsely : Prop := diffAllRow.holds Try.pinned (OpenSpec.ofChange diffAllWrong)

/-- 'pillarboxlaw20.DiffMakes': WHATEVER THE INPUT: true; the input reads as it did. -/
def diffMakesSpec : ChangeSpec := { name := "diffMakes", fn := fun _ => fun
  | [d1, d2] => { results := [.lit (.bool true)], args := [d1, d2] }
  | _ => none }
def diffMakesRow : OpenClaim := { program := "ytmlbnkojodkieaa", sum := "06d15d174a76277f2f02580c708199123e03937a28f681d441fcbda6a635812e", func := "pillarbox/pillarboxlaw20.DiffMakes", spec := "diffMakes", inPlace := ["slices.overlaps[int]"], apart := false }
def DiffMakesSaid : Prop := diffMakesRow.holds Try.pinned (OpenSpec.ofChange diffMakesSpec)

/-- ITS FALSE NEIGHBOUR: 'it returns false'. Refute it at one input. -/
def diffMakesWrong : ChangeSpec := { name := "diffMakes", fn := fun _ => fun
  | [d1, d2] => { results := [.lit (.bool false)], args := [d1, d2] }
  | _ => none }
def DiffMakesWrongFalsely : Prop := diffMakesRow.holds Try.pinned (OpenSpec.ofChange diffMakesWrong)

/-- 'pillarboxlaw20.DiffTwice': WHATEVER THE INPUT: true; the input reads as it did. -/
def diffTwiceSpec : ChangeSpec := { name := "diffTwice", fn := fun _ => fun
  | [d1, d2] => { results := [.lit (.bool true)], args := [d1, d2] }
  | _ => none }
def diffTwiceRow : OpenClaim := { program := "ytmlbnkojodkieaa", sum := "06d15d174a76277f2f02580c708199123e03937a28f681d441fcbda6a635812e", func := "pillarbox/pillarboxlaw20.DiffTwice", spec := "diffTwice", inPlace := ["slices.overlaps[int]"], apart := false }
def DiffTwiceSaid : Prop := diffTwiceRow.holds Try.pinned (OpenSpec.ofChange diffTwiceSpec)

/-- ITS FALSE NEIGHBOUR: 'it returns false'. Refute it at one input. -/
def diffTwiceWrong : ChangeSpec := { name := "diffTwice", fn := fun _ => fun
  | [d1, d2] => { results := [.lit (.bool false)], args := [d1, d2] }
  | _ => none }
def DiffTwiceWrongFalsely : Prop := diffTwiceRow.holds Try.pinned (OpenSpec.ofChange diffTwiceWrong)

/-- 'pillarboxlaw20.DiffTurned': WHATEVER THE INPUT: true; the input reads as it did. -/
def diffTurnedSpec : ChangeSpec := { name := "diffTurned", fn := fun _ => fun
  | [d] => { results := [.lit (.bool true)], args := [d] }
  | _ => none }
def diffTurnedRow : OpenClaim := { program := "ytmlbnkojodkieaa", sum := "06d15d174a76277f2f02580c708199123e03937a28f681d441fcbda6a635812e", func := "pillarbox/pillarboxlaw20.DiffTurned", spec := "diffTurned", inPlace := ["slices.overlaps[int]"], apart := false }
def DiffTurnedSaid : Prop := diffTurnedRow.holds Try.pinned (OpenSpec.ofChange diffTurnedSpec)

/-- ITS FALSE NEIGHBOUR: 'it returns false'. Refute it at one input. -/
def diffTurnedWrong : ChangeSpec := { name := "diffTurned", fn := fun _ => fun
  | [d] => { results := [.lit (.bool false)], args := [d] }
  | _ => none }
def DiffTurnedWrongFalsely : Prop := diffTurnedRow.holds Try.pinned (OpenSpec.ofChange diffTurnedWrong)

/- THE SECOND FORM. 'bulk': how many values and letters a reading holds, each counted each time it is reached (what is shared counts as often as it is met; a slice's spare places count too). A statement '..UptoSaid' is the law's where the arguments, and the package variables that the reading takes, are together of bulk at most 1048576: NARROWER than '..Said'. Prove '..Said' where nothing that the law and all that it calls make is longer than what came in: it says more and counts as full. Else prove '..UptoSaid'. A law counts once. -/
mutual
def uptoBulk {H : Type} : DataW H → Nat
  | .lit (.string bytes) => bytes.length + 1
  | .lit _ => 1
  | .nil => 1
  | .ptr d => uptoBulk d + 1
  | .slice elems spare => uptoBulkAll elems + uptoBulkAll spare + 1
  | .agg parts => uptoBulkAll parts + 1
  | .iface _ d => uptoBulk d + 1
  | .map entries => uptoBulkEntries entries + 1
  | .held _ => 1
def uptoBulkAll {H : Type} : List (DataW H) → Nat
  | [] => 0
  | d :: r => uptoBulk d + uptoBulkAll r
def uptoBulkEntries {H : Type} : List (Lit × DataW H) → Nat
  | [] => 0
  | x :: r => uptoBulkEntry x + uptoBulkEntries r
def uptoBulkEntry {H : Type} : Lit × DataW H → Nat
  | (.string bytes, d) => bytes.length + uptoBulk d + 1
  | (_, d) => uptoBulk d + 1
 end
def uptoSmall : (H : Type) → List (DataW H) → Bool := fun _ ds => decide (uptoBulkAll ds ≤ 1048576)
def OpenSpec.upto (s : _root_.Go.ChangeSpec) : _root_.Go.OpenSpec := { _root_.Go.OpenSpec.ofChange s with cond := some uptoSmall }

/-- 'pillarboxlaw20.DiffTakes', WHERE WHAT IT READS IS OF BULK AT MOST 1048576: true; the input reads as it did. -/
def diffTakesUptoRow : OpenClaim := { program := "ytmlbnkojodkieaa", sum := "06d15d174a76277f2f02580c708199123e03937a28f681d441fcbda6a635812e", func := "pillarbox/pillarboxlaw20.DiffTakes", spec := "diffTakes", apart := false, narrowed := true }
def DiffTakesUptoSaid : Prop := diffTakesUptoRow.holds Try.pinned (OpenSpec.upto diffTakesSpec)

/-- 'pillarboxlaw20.DiffAll', WHERE WHAT IT READS IS OF BULK AT MOST 1048576: true; the input reads as it did. -/
def diffAllUptoRow : OpenClaim := { program := "ytmlbnkojodkieaa", sum := "06d15d174a76277f2f02580c708199123e03937a28f681d441fcbda6a635812e", func := "pillarbox/pillarboxlaw20.DiffAll", spec := "diffAll", inPlace := ["slices.overlaps[int]"], apart := false, narrowed := true }
def DiffAllUptoSaid : Prop := diffAllUptoRow.holds Try.pinned (OpenSpec.upto diffAllSpec)

/-- 'pillarboxlaw20.DiffMakes', WHERE WHAT IT READS IS OF BULK AT MOST 1048576: true; the input reads as it did. -/
def diffMakesUptoRow : OpenClaim := { program := "ytmlbnkojodkieaa", sum := "06d15d174a76277f2f02580c708199123e03937a28f681d441fcbda6a635812e", func := "pillarbox/pillarboxlaw20.DiffMakes", spec := "diffMakes", inPlace := ["slices.overlaps[int]"], apart := false, narrowed := true }
def DiffMakesUptoSaid : Prop := diffMakesUptoRow.holds Try.pinned (OpenSpec.upto diffMakesSpec)

/-- 'pillarboxlaw20.DiffTwice', WHERE WHAT IT READS IS OF BULK AT MOST 1048576: true; the input reads as it did. -/
def diffTwiceUptoRow : OpenClaim := { program := "ytmlbnkojodkieaa", sum := "06d15d174a76277f2f02580c708199123e03937a28f681d441fcbda6a635812e", func := "pillarbox/pillarboxlaw20.DiffTwice", spec := "diffTwice", inPlace := ["slices.overlaps[int]"], apart := false, narrowed := true }
def DiffTwiceUptoSaid : Prop := diffTwiceUptoRow.holds Try.pinned (OpenSpec.upto diffTwiceSpec)

/-- 'pillarboxlaw20.DiffTurned', WHERE WHAT IT READS IS OF BULK AT MOST 1048576: true; the input reads as it did. -/
def diffTurnedUptoRow : OpenClaim := { program := "ytmlbnkojodkieaa", sum := "06d15d174a76277f2f02580c708199123e03937a28f681d441fcbda6a635812e", func := "pillarbox/pillarboxlaw20.DiffTurned", spec := "diffTurned", inPlace := ["slices.overlaps[int]"], apart := false, narrowed := true }
def DiffTurnedUptoSaid : Prop := diffTurnedUptoRow.holds Try.pinned (OpenSpec.upto diffTurnedSpec)

end Rows
end Go.Proofs.Ytmlbnkojodkieaa
