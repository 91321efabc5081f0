/-
  No cell of these rows narrows 'for every input' (looked for: loops, veiled, ifaces, maps, wideKeys, modest, calm, conditions, laid).
  DERIVED. THE GIVEN ROWS OF THIS SEAT. 8 by the template 'for every input the law returns true; each argument reads behind the call as it read before'; 0 by the template 'total and deterministic' (their statements: YtgnfkfmhjgbhhaaTotals.lean).
  GIVEN WITH THE SEED: the statements are not yours to turn. If you find one false, say at which input.
  Laid BY PROGRAM, IN A SANDBOX (cutbox-rows.mjs): the forced cells as the released guide's own fill.sh prints them over the translation 425df2f797880140… (all of the seat's roots in one cut). By AI agents, Wed Nov 11 2026. No macro, syntax, notation, axiom, sorry.
-/
import Derived.Test.YtgnfkfmhjgbhhaaChecked
import GoSem.Claim
import GoSem.ClaimJoined
import GoSem.ClaimMapViews
import Derived.JoinedTies
import Derived.KernelRfl
namespace Go.Proofs.Ytgnfkfmhjgbhhaa
/- THE CELL 'sum', in the pinned program and in every row, IS THE sha256 OF THE DUMP (.gsa) THAT YtgnfkfmhjgbhhaaProg.lean LOADS. Nothing in Lean hashes anything: it is a label: what it is worth is what the hold of that sum in a sandbox is worth. -/
noncomputable def Try.pinned : Pinned := { name := "ytgnfkfmhjgbhhaa", sum := "425df2f797880140ec0e7e6b3f0f1ce661281c7a042fb74035a43753ac4e06b3", checked := Try.checked }
namespace Rows
def none {H : Type} : Left H := { results := [], args := [] }

/-- 'pillarboxlaw22.LineFeeds': WHATEVER THE INPUT: true; the input reads as it did. -/
def lineFeedsSpec : ChangeSpec := { name := "lineFeeds", fn := fun _ => fun
  | [d1, d2] => { results := [.lit (.bool true)], args := [d1, d2] }
  | _ => none }
def lineFeedsRow : OpenClaim := { program := "ytgnfkfmhjgbhhaa", sum := "425df2f797880140ec0e7e6b3f0f1ce661281c7a042fb74035a43753ac4e06b3", func := "pillarbox/pillarboxlaw22.LineFeeds", spec := "lineFeeds", inPlace := ["internal/bytealg.IndexByteString"], recurses := true, apart := false }
def LineFeedsSaid : Prop := lineFeedsRow.holds Try.pinned (OpenSpec.ofChange lineFeedsSpec)

/-- ITS FALSE NEIGHBOUR: 'it returns false'. Refute it at one input. -/
def lineFeedsWrong : ChangeSpec := { name := "lineFeeds", fn := fun _ => fun
  | [d1, d2] => { results := [.lit (.bool false)], args := [d1, d2] }
  | _ => none }
def LineFeedsWrongFalsely : Prop := lineFeedsRow.holds Try.pinned (OpenSpec.ofChange lineFeedsWrong)

/-- 'pillarboxlaw22.LinePieces': WHATEVER THE INPUT: true; the input reads as it did. -/
def linePiecesSpec : ChangeSpec := { name := "linePieces", fn := fun _ => fun
  | [d1, d2, d3] => { results := [.lit (.bool true)], args := [d1, d2, d3] }
  | _ => none }
def linePiecesRow : OpenClaim := { program := "ytgnfkfmhjgbhhaa", sum := "425df2f797880140ec0e7e6b3f0f1ce661281c7a042fb74035a43753ac4e06b3", func := "pillarbox/pillarboxlaw22.LinePieces", spec := "linePieces", inPlace := ["internal/bytealg.IndexByteString"], recurses := true, apart := false }
def LinePiecesSaid : Prop := linePiecesRow.holds Try.pinned (OpenSpec.ofChange linePiecesSpec)

/-- ITS FALSE NEIGHBOUR: 'it returns false'. Refute it at one input. -/
def linePiecesWrong : ChangeSpec := { name := "linePieces", fn := fun _ => fun
  | [d1, d2, d3] => { results := [.lit (.bool false)], args := [d1, d2, d3] }
  | _ => none }
def LinePiecesWrongFalsely : Prop := linePiecesRow.holds Try.pinned (OpenSpec.ofChange linePiecesWrong)

/-- 'pillarboxlaw22.LineLiterals': WHATEVER THE INPUT: true; the input reads as it did. -/
def lineLiteralsSpec : ChangeSpec := { name := "lineLiterals", fn := fun _ => fun
  | [d1, d2, d3] => { results := [.lit (.bool true)], args := [d1, d2, d3] }
  | _ => none }
def lineLiteralsRow : OpenClaim := { program := "ytgnfkfmhjgbhhaa", sum := "425df2f797880140ec0e7e6b3f0f1ce661281c7a042fb74035a43753ac4e06b3", func := "pillarbox/pillarboxlaw22.LineLiterals", spec := "lineLiterals", inPlace := ["internal/bytealg.IndexByteString"], recurses := true, apart := false }
def LineLiteralsSaid : Prop := lineLiteralsRow.holds Try.pinned (OpenSpec.ofChange lineLiteralsSpec)

/-- ITS FALSE NEIGHBOUR: 'it returns false'. Refute it at one input. -/
def lineLiteralsWrong : ChangeSpec := { name := "lineLiterals", fn := fun _ => fun
  | [d1, d2, d3] => { results := [.lit (.bool false)], args := [d1, d2, d3] }
  | _ => none }
def LineLiteralsWrongFalsely : Prop := lineLiteralsRow.holds Try.pinned (OpenSpec.ofChange lineLiteralsWrong)

/-- 'pillarboxlaw22.LineLong': WHATEVER THE INPUT: true; the input reads as it did. -/
def lineLongSpec : ChangeSpec := { name := "lineLong", fn := fun _ => fun
  | [d1, d2] => { results := [.lit (.bool true)], args := [d1, d2] }
  | _ => none }
def lineLongRow : OpenClaim := { program := "ytgnfkfmhjgbhhaa", sum := "425df2f797880140ec0e7e6b3f0f1ce661281c7a042fb74035a43753ac4e06b3", func := "pillarbox/pillarboxlaw22.LineLong", spec := "lineLong", inPlace := ["internal/bytealg.IndexByteString"], recurses := true, apart := false }
def LineLongSaid : Prop := lineLongRow.holds Try.pinned (OpenSpec.ofChange lineLongSpec)

/-- ITS FALSE NEIGHBOUR: 'it returns false'. Refute it at one input. -/
def lineLongWrong : ChangeSpec := { name := "lineLong", fn := fun _ => fun
  | [d1, d2] => { results := [.lit (.bool false)], args := [d1, d2] }
  | _ => none }
def LineLongWrongFalsely : Prop := lineLongRow.holds Try.pinned (OpenSpec.ofChange lineLongWrong)

/-- 'pillarboxlaw22.LineWords': WHATEVER THE INPUT: true; the input reads as it did. -/
def lineWordsSpec : ChangeSpec := { name := "lineWords", fn := fun _ => fun
  | [d1, d2] => { results := [.lit (.bool true)], args := [d1, d2] }
  | _ => none }
def lineWordsRow : OpenClaim := { program := "ytgnfkfmhjgbhhaa", sum := "425df2f797880140ec0e7e6b3f0f1ce661281c7a042fb74035a43753ac4e06b3", func := "pillarbox/pillarboxlaw22.LineWords", spec := "lineWords", inPlace := ["internal/bytealg.IndexByteString"], recurses := true, apart := false }
def LineWordsSaid : Prop := lineWordsRow.holds Try.pinned (OpenSpec.ofChange lineWordsSpec)

/-- ITS FALSE NEIGHBOUR: 'it returns false'. Refute it at one input. -/
def lineWordsWrong : ChangeSpec := { name := "lineWords", fn := fun _ => fun
  | [d1, d2] => { results := [.lit (.bool false)], args := [d1, d2] }
  | _ => none }
def LineWordsWrongFalsely : Prop := lineWordsRow.holds Try.pinned (OpenSpec.ofChange lineWordsWrong)

/-- 'pillarboxlaw22.LineNil': WHATEVER THE INPUT: true; the input reads as it did. -/
def lineNilSpec : ChangeSpec := { name := "lineNil", fn := fun _ => fun
  | [d] => { results := [.lit (.bool true)], args := [d] }
  | _ => none }
def lineNilRow : OpenClaim := { program := "ytgnfkfmhjgbhhaa", sum := "425df2f797880140ec0e7e6b3f0f1ce661281c7a042fb74035a43753ac4e06b3", func := "pillarbox/pillarboxlaw22.LineNil", spec := "lineNil", inPlace := ["internal/bytealg.IndexByteString"], recurses := true, apart := false }
def LineNilSaid : Prop := lineNilRow.holds Try.pinned (OpenSpec.ofChange lineNilSpec)

/-- ITS FALSE NEIGHBOUR: 'it returns false'. Refute it at one input. -/
def lineNilWrong : ChangeSpec := { name := "lineNil", fn := fun _ => fun
  | [d] => { results := [.lit (.bool false)], args := [d] }
  | _ => none }
def LineNilWrongFalsely : Prop := lineNilRow.holds Try.pinned (OpenSpec.ofChange lineNilWrong)

/-- 'pillarboxlaw22.LineBad': WHATEVER THE INPUT: true; the input reads as it did. -/
def lineBadSpec : ChangeSpec := { name := "lineBad", fn := fun _ => fun
  | [d1, d2] => { results := [.lit (.bool true)], args := [d1, d2] }
  | _ => none }
def lineBadRow : OpenClaim := { program := "ytgnfkfmhjgbhhaa", sum := "425df2f797880140ec0e7e6b3f0f1ce661281c7a042fb74035a43753ac4e06b3", func := "pillarbox/pillarboxlaw22.LineBad", spec := "lineBad", inPlace := ["internal/bytealg.IndexByteString"], recurses := true, apart := false }
def LineBadSaid : Prop := lineBadRow.holds Try.pinned (OpenSpec.ofChange lineBadSpec)

/-- ITS FALSE NEIGHBOUR: 'it returns false'. Refute it at one input. -/
def lineBadWrong : ChangeSpec := { name := "lineBad", fn := fun _ => fun
  | [d1, d2] => { results := [.lit (.bool false)], args := [d1, d2] }
  | _ => none }
def LineBadWrongFalsely : Prop := lineBadRow.holds Try.pinned (OpenSpec.ofChange lineBadWrong)

/-- 'pillarboxlaw22.LinePass': WHATEVER THE INPUT: true; the input reads as it did. -/
def linePassSpec : ChangeSpec := { name := "linePass", fn := fun _ => fun
  | [d1, d2] => { results := [.lit (.bool true)], args := [d1, d2] }
  | _ => none }
def linePassRow : OpenClaim := { program := "ytgnfkfmhjgbhhaa", sum := "425df2f797880140ec0e7e6b3f0f1ce661281c7a042fb74035a43753ac4e06b3", func := "pillarbox/pillarboxlaw22.LinePass", spec := "linePass", inPlace := ["internal/bytealg.IndexByteString"], recurses := true, apart := false }
def LinePassSaid : Prop := linePassRow.holds Try.pinned (OpenSpec.ofChange linePassSpec)

/-- ITS FALSE NEIGHBOUR: 'it returns false'. Refute it at one input. -/
def linePassWrong : ChangeSpec := { name := "linePass", fn := fun _ => fun
  | [d1, d2] => { results := [.lit (.bool false)], args := [d1, d2] }
  | _ => none }
def LinePassWrongFalsely : Prop := linePassRow.holds Try.pinned (OpenSpec.ofChange linePassWrong)

/- THE SECOND FORM. 'bulk': how many values and letters a reading holds, each counted each time it is reached (what is shared counts as often as it is met; a slice's spare places count too). A statement '..UptoSaid' is the law's where the arguments, and the package variables that the reading takes, are together of bulk at most 1048576: NARROWER than '..Said'. Prove '..Said' where nothing that the law and all that it calls make is longer than what came in: it says more and counts as full. Else prove '..UptoSaid'. A law counts once. -/
mutual
def uptoBulk {H : Type} : DataW H → Nat
  | .lit (.string bytes) => bytes.length + 1
  | .lit _ => 1
  | .nil => 1
  | .ptr d => uptoBulk d + 1
  | .slice elems spare => uptoBulkAll elems + uptoBulkAll spare + 1
  | .agg parts => uptoBulkAll parts + 1
  | .iface _ d => uptoBulk d + 1
  | .map entries => uptoBulkEntries entries + 1
  | .held _ => 1
def uptoBulkAll {H : Type} : List (DataW H) → Nat
  | [] => 0
  | d :: r => uptoBulk d + uptoBulkAll r
def uptoBulkEntries {H : Type} : List (Lit × DataW H) → Nat
  | [] => 0
  | x :: r => uptoBulkEntry x + uptoBulkEntries r
def uptoBulkEntry {H : Type} : Lit × DataW H → Nat
  | (.string bytes, d) => bytes.length + uptoBulk d + 1
  | (_, d) => uptoBulk d + 1
 end
def uptoSmall : (H : Type) → List (DataW H) → Bool := fun _ ds => decide (uptoBulkAll ds ≤ 1048576)
def OpenSpec.upto (s : _root_.Go.ChangeSpec) : _root_.Go.OpenSpec := { _root_.Go.OpenSpec.ofChange s with cond := some uptoSmall }

/-- 'pillarboxlaw22.LineFeeds', WHERE WHAT IT READS IS OF BULK AT MOST 1048576: true; the input reads as it did. -/
def lineFeedsUptoRow : OpenClaim := { program := "ytgnfkfmhjgbhhaa", sum := "425df2f797880140ec0e7e6b3f0f1ce661281c7a042fb74035a43753ac4e06b3", func := "pillarbox/pillarboxlaw22.LineFeeds", spec := "lineFeeds", inPlace := ["internal/bytealg.IndexByteString"], recurses := true, apart := false, narrowed := true }
def LineFeedsUptoSaid : Prop := lineFeedsUptoRow.holds Try.pinned (OpenSpec.upto lineFeedsSpec)

/-- 'pillarboxlaw22.LinePieces', WHERE WHAT IT READS IS OF BULK AT MOST 1048576: true; the input reads as it did. -/
def linePiecesUptoRow : OpenClaim := { program := "ytgnfkfmhjgbhhaa", sum := "425df2f797880140ec0e7e6b3f0f1ce661281c7a042fb74035a43753ac4e06b3", func := "pillarbox/pillarboxlaw22.LinePieces", spec := "linePieces", inPlace := ["internal/bytealg.IndexByteString"], recurses := true, apart := false, narrowed := true }
def LinePiecesUptoSaid : Prop := linePiecesUptoRow.holds Try.pinned (OpenSpec.upto linePiecesSpec)

/-- 'pillarboxlaw22.LineLiterals', WHERE WHAT IT READS IS OF BULK AT MOST 1048576: true; the input reads as it did. -/
def lineLiteralsUptoRow : OpenClaim := { program := "ytgnfkfmhjgbhhaa", sum := "425df2f797880140ec0e7e6b3f0f1ce661281c7a042fb74035a43753ac4e06b3", func := "pillarbox/pillarboxlaw22.LineLiterals", spec := "lineLiterals", inPlace := ["internal/bytealg.IndexByteString"], recurses := true, apart := false, narrowed := true }
def LineLiteralsUptoSaid : Prop := lineLiteralsUptoRow.holds Try.pinned (OpenSpec.upto lineLiteralsSpec)

/-- 'pillarboxlaw22.LineLong', WHERE WHAT IT READS IS OF BULK AT MOST 1048576: true; the input reads as it did. -/
def lineLongUptoRow : OpenClaim := { program := "ytgnfkfmhjgbhhaa", sum := "425df2f797880140ec0e7e6b3f0f1ce661281c7a042fb74035a43753ac4e06b3", func := "pillarbox/pillarboxlaw22.LineLong", spec := "lineLong", inPlace := ["internal/bytealg.IndexByteString"], recurses := true, apart := false, narrowed := true }
def LineLongUptoSaid : Prop := lineLongUptoRow.holds Try.pinned (OpenSpec.upto lineLongSpec)

/-- 'pillarboxlaw22.LineWords', WHERE WHAT IT READS IS OF BULK AT MOST 1048576: true; the input reads as it did. -/
def lineWordsUptoRow : OpenClaim := { program := "ytgnfkfmhjgbhhaa", sum := "425df2f797880140ec0e7e6b3f0f1ce661281c7a042fb74035a43753ac4e06b3", func := "pillarbox/pillarboxlaw22.LineWords", spec := "lineWords", inPlace := ["internal/bytealg.IndexByteString"], recurses := true, apart := false, narrowed := true }
def LineWordsUptoSaid : Prop := lineWordsUptoRow.holds Try.pinned (OpenSpec.upto lineWordsSpec)

/-- 'pillarboxlaw22.LineNil', WHERE WHAT IT READS IS OF BULK AT MOST 1048576: true; the input reads as it did. -/
def lineNilUptoRow : OpenClaim := { program := "ytgnfkfmhjgbhhaa", sum := "425df2f797880140ec0e7e6b3f0f1ce661281c7a042fb74035a43753ac4e06b3", func := "pillarbox/pillarboxlaw22.LineNil", spec := "lineNil", inPlace := ["internal/bytealg.IndexByteString"], recurses := true, apart := false, narrowed := true }
def LineNilUptoSaid : Prop := lineNilUptoRow.holds Try.pinned (OpenSpec.upto lineNilSpec)

/-- 'pillarboxlaw22.LineBad', WHERE WHAT IT READS IS OF BULK AT MOST 1048576: true; the input reads as it did. -/
def lineBadUptoRow : OpenClaim := { program := "ytgnfkfmhjgbhhaa", sum := "425df2f797880140ec0e7e6b3f0f1ce661281c7a042fb74035a43753ac4e06b3", func := "pillarbox/pillarboxlaw22.LineBad", spec := "lineBad", inPlace := ["internal/bytealg.IndexByteString"], recurses := true, apart := false, narrowed := true }
def LineBadUptoSaid : Prop := lineBadUptoRow.holds Try.pinned (OpenSpec.upto lineBadSpec)

/-- 'pillarboxlaw22.LinePass', WHERE WHAT IT READS IS OF BULK AT MOST 1048576: true; the input reads as it did. -/
def linePassUptoRow : OpenClaim := { program := "ytgnfkfmhjgbhhaa", sum := "425df2f797880140ec0e7e6b3f0f1ce661281c7a042fb74035a43753ac4e06b3", func := "pillarbox/pillarboxlaw22.LinePass", spec := "linePass", inPlace := ["internal/bytealg.IndexByteString"], recurses := true, apart := false, narrowed := true }
def LinePassUptoSaid : Prop := linePassUptoRow.holds Try.pinned (OpenSpec.upto linePassSpec)

end Rows
end Go.Proofs.Ytgnfkfmhjgbhhaa
