/-
  No cell of these rows narrows 'for every input' (looked for: loops, veiled, ifaces, maps, wideKeys, modest, calm, conditions, laid).
  DERIVED. THE GIVEN ROWS OF THIS SEAT. 16 by the template 'for every input the law returns true; each argument reads behind the call as it read before'; 0 by the template 'total and deterministic' (their statements: YtfiamddinkokbaaTotals.lean).
  GIVEN WITH THE SEED: the statements are not yours to turn. If you find one false, say at which input.
  Laid BY PROGRAM, IN A SANDBOX (cutbox-rows.mjs): the forced cells as the released guide's own fill.sh prints them over the translation ac46bc33d31faedd… (all of the seat's roots in one cut). By AI agents, Wed Nov 11 2026. No macro, syntax, notation, axiom, sorry.
-/
import Derived.Test.YtfiamddinkokbaaChecked
import GoSem.Claim
import GoSem.ClaimJoined
import GoSem.ClaimMapViews
import Derived.JoinedTies
import Derived.KernelRfl
namespace Go.Proofs.Ytfiamddinkokbaa
/- THE CELL 'sum', in the pinned program and in every row, IS THE sha256 OF THE DUMP (.gsa) THAT YtfiamddinkokbaaProg.lean LOADS. Nothing in Lean hashes anything: it is a label: what it is worth is what the hold of that sum in a sandbox is worth. -/
noncomputable def Try.pinned : Pinned := { name := "ytfiamddinkokbaa", sum := "ac46bc33d31faedd50a2786b98919981eccecbedb5ca7f9371d599d9e0154ac8", checked := Try.checked }
namespace Rows
def none {H : Type} : Left H := { results := [], args := [] }

/-- 'tripartitelaw07.DocWidths': WHATEVER THE INPUT: true; the input reads as it did. -/
def docWidthsSpec : ChangeSpec := { name := "docWidths", fn := fun _ => fun
  | [d1, d2, d3] => { results := [.lit (.bool true)], args := [d1, d2, d3] }
  | _ => none }
def docWidthsRow : OpenClaim := { program := "ytfiamddinkokbaa", sum := "ac46bc33d31faedd50a2786b98919981eccecbedb5ca7f9371d599d9e0154ac8", func := "tripartite/tripartitelaw07.DocWidths", spec := "docWidths", inPlace := ["internal/bytealg.IndexByteString", "internal/bytealg.IndexString"], unfollowed := true, recurses := true, named := ["internal/bytealg.MaxLen"], apart := false }
def DocWidthsSaid : Prop := docWidthsRow.holds Try.pinned (OpenSpec.ofChange docWidthsSpec)

/-- ITS FALSE NEIGHBOUR: 'it returns false'. Refute it at one input. -/
def docWidthsWrong : ChangeSpec := { name := "docWidths", fn := fun _ => fun
  | [d1, d2, d3] => { results := [.lit (.bool false)], args := [d1, d2, d3] }
  | _ => none }
def DocWidthsWrongFalsely : Prop := docWidthsRow.holds Try.pinned (OpenSpec.ofChange docWidthsWrong)

/-- 'tripartitelaw07.DocJoins': WHATEVER THE INPUT: true; the input reads as it did. -/
def docJoinsSpec : ChangeSpec := { name := "docJoins", fn := fun _ => fun
  | [d1, d2] => { results := [.lit (.bool true)], args := [d1, d2] }
  | _ => none }
def docJoinsRow : OpenClaim := { program := "ytfiamddinkokbaa", sum := "ac46bc33d31faedd50a2786b98919981eccecbedb5ca7f9371d599d9e0154ac8", func := "tripartite/tripartitelaw07.DocJoins", spec := "docJoins", inPlace := ["internal/bytealg.IndexByteString", "internal/bytealg.IndexString"], unfollowed := true, recurses := true, named := ["internal/bytealg.MaxLen"], apart := false }
def DocJoinsSaid : Prop := docJoinsRow.holds Try.pinned (OpenSpec.ofChange docJoinsSpec)

/-- ITS FALSE NEIGHBOUR: 'it returns false'. Refute it at one input. -/
def docJoinsWrong : ChangeSpec := { name := "docJoins", fn := fun _ => fun
  | [d1, d2] => { results := [.lit (.bool false)], args := [d1, d2] }
  | _ => none }
def DocJoinsWrongFalsely : Prop := docJoinsRow.holds Try.pinned (OpenSpec.ofChange docJoinsWrong)

/-- 'tripartitelaw01.LinesSplits': WHATEVER THE INPUT: true; the input reads as it did. -/
def linesSplitsSpec : ChangeSpec := { name := "linesSplits", fn := fun _ => fun
  | [d] => { results := [.lit (.bool true)], args := [d] }
  | _ => none }
def linesSplitsRow : OpenClaim := { program := "ytfiamddinkokbaa", sum := "ac46bc33d31faedd50a2786b98919981eccecbedb5ca7f9371d599d9e0154ac8", func := "tripartite/tripartitelaw01.LinesSplits", spec := "linesSplits", inPlace := ["internal/bytealg.IndexByteString", "internal/abi.NoEscape", "internal/bytealg.MakeNoZero", "internal/bytealg.IndexString"], unfollowed := true, recurses := true, named := ["internal/bytealg.MaxLen"], apart := false }
def LinesSplitsSaid : Prop := linesSplitsRow.holds Try.pinned (OpenSpec.ofChange linesSplitsSpec)

/-- ITS FALSE NEIGHBOUR: 'it returns false'. Refute it at one input. -/
def linesSplitsWrong : ChangeSpec := { name := "linesSplits", fn := fun _ => fun
  | [d] => { results := [.lit (.bool false)], args := [d] }
  | _ => none }
def LinesSplitsWrongFalsely : Prop := linesSplitsRow.holds Try.pinned (OpenSpec.ofChange linesSplitsWrong)

/-- 'tripartitelaw01.LinesJoins': WHATEVER THE INPUT: true; the input reads as it did. -/
def linesJoinsSpec : ChangeSpec := { name := "linesJoins", fn := fun _ => fun
  | [d] => { results := [.lit (.bool true)], args := [d] }
  | _ => none }
def linesJoinsRow : OpenClaim := { program := "ytfiamddinkokbaa", sum := "ac46bc33d31faedd50a2786b98919981eccecbedb5ca7f9371d599d9e0154ac8", func := "tripartite/tripartitelaw01.LinesJoins", spec := "linesJoins", inPlace := ["internal/bytealg.IndexByteString", "internal/abi.NoEscape", "internal/bytealg.MakeNoZero", "internal/bytealg.IndexString"], unfollowed := true, recurses := true, named := ["internal/bytealg.MaxLen"], apart := false }
def LinesJoinsSaid : Prop := linesJoinsRow.holds Try.pinned (OpenSpec.ofChange linesJoinsSpec)

/-- ITS FALSE NEIGHBOUR: 'it returns false'. Refute it at one input. -/
def linesJoinsWrong : ChangeSpec := { name := "linesJoins", fn := fun _ => fun
  | [d] => { results := [.lit (.bool false)], args := [d] }
  | _ => none }
def LinesJoinsWrongFalsely : Prop := linesJoinsRow.holds Try.pinned (OpenSpec.ofChange linesJoinsWrong)

/-- 'tripartitelaw01.LinesNumbers': WHATEVER THE INPUT: true; the input reads as it did. -/
def linesNumbersSpec : ChangeSpec := { name := "linesNumbers", fn := fun _ => fun
  | [d1, d2, d3] => { results := [.lit (.bool true)], args := [d1, d2, d3] }
  | _ => none }
def linesNumbersRow : OpenClaim := { program := "ytfiamddinkokbaa", sum := "ac46bc33d31faedd50a2786b98919981eccecbedb5ca7f9371d599d9e0154ac8", func := "tripartite/tripartitelaw01.LinesNumbers", spec := "linesNumbers", inPlace := ["internal/bytealg.IndexByteString", "internal/abi.NoEscape", "internal/bytealg.MakeNoZero", "internal/bytealg.IndexString"], unfollowed := true, recurses := true, named := ["internal/bytealg.MaxLen"], apart := false }
def LinesNumbersSaid : Prop := linesNumbersRow.holds Try.pinned (OpenSpec.ofChange linesNumbersSpec)

/-- ITS FALSE NEIGHBOUR: 'it returns false'. Refute it at one input. -/
def linesNumbersWrong : ChangeSpec := { name := "linesNumbers", fn := fun _ => fun
  | [d1, d2, d3] => { results := [.lit (.bool false)], args := [d1, d2, d3] }
  | _ => none }
def LinesNumbersWrongFalsely : Prop := linesNumbersRow.holds Try.pinned (OpenSpec.ofChange linesNumbersWrong)

/-- 'tripartitelaw08.MarkPrints': WHATEVER THE INPUT: true; the input reads as it did. -/
def markPrintsSpec : ChangeSpec := { name := "markPrints", fn := fun _ => fun
  | [d1, d2] => { results := [.lit (.bool true)], args := [d1, d2] }
  | _ => none }
def markPrintsRow : OpenClaim := { program := "ytfiamddinkokbaa", sum := "ac46bc33d31faedd50a2786b98919981eccecbedb5ca7f9371d599d9e0154ac8", func := "tripartite/tripartitelaw08.MarkPrints", spec := "markPrints", inPlace := ["internal/bytealg.IndexByteString", "internal/bytealg.IndexString", "internal/abi.NoEscape", "internal/bytealg.MakeNoZero"], unfollowed := true, recurses := true, named := ["internal/bytealg.MaxLen"], apart := false }
def MarkPrintsSaid : Prop := markPrintsRow.holds Try.pinned (OpenSpec.ofChange markPrintsSpec)

/-- ITS FALSE NEIGHBOUR: 'it returns false'. Refute it at one input. -/
def markPrintsWrong : ChangeSpec := { name := "markPrints", fn := fun _ => fun
  | [d1, d2] => { results := [.lit (.bool false)], args := [d1, d2] }
  | _ => none }
def MarkPrintsWrongFalsely : Prop := markPrintsRow.holds Try.pinned (OpenSpec.ofChange markPrintsWrong)

/-- 'tripartitelaw08.MarkLines': WHATEVER THE INPUT: true; the input reads as it did. -/
def markLinesSpec : ChangeSpec := { name := "markLines", fn := fun _ => fun
  | [d1, d2] => { results := [.lit (.bool true)], args := [d1, d2] }
  | _ => none }
def markLinesRow : OpenClaim := { program := "ytfiamddinkokbaa", sum := "ac46bc33d31faedd50a2786b98919981eccecbedb5ca7f9371d599d9e0154ac8", func := "tripartite/tripartitelaw08.MarkLines", spec := "markLines", inPlace := ["internal/bytealg.IndexByteString", "internal/bytealg.IndexString", "internal/abi.NoEscape", "internal/bytealg.MakeNoZero"], unfollowed := true, recurses := true, named := ["internal/bytealg.MaxLen"], apart := false }
def MarkLinesSaid : Prop := markLinesRow.holds Try.pinned (OpenSpec.ofChange markLinesSpec)

/-- ITS FALSE NEIGHBOUR: 'it returns false'. Refute it at one input. -/
def markLinesWrong : ChangeSpec := { name := "markLines", fn := fun _ => fun
  | [d1, d2] => { results := [.lit (.bool false)], args := [d1, d2] }
  | _ => none }
def MarkLinesWrongFalsely : Prop := markLinesRow.holds Try.pinned (OpenSpec.ofChange markLinesWrong)

/-- 'tripartitelaw08.MarkReads': WHATEVER THE INPUT: true; the input reads as it did. -/
def markReadsSpec : ChangeSpec := { name := "markReads", fn := fun _ => fun
  | [d1, d2] => { results := [.lit (.bool true)], args := [d1, d2] }
  | _ => none }
def markReadsRow : OpenClaim := { program := "ytfiamddinkokbaa", sum := "ac46bc33d31faedd50a2786b98919981eccecbedb5ca7f9371d599d9e0154ac8", func := "tripartite/tripartitelaw08.MarkReads", spec := "markReads", inPlace := ["internal/bytealg.IndexByteString", "internal/bytealg.IndexString", "internal/abi.NoEscape", "internal/bytealg.MakeNoZero"], unfollowed := true, recurses := true, named := ["internal/bytealg.MaxLen"], apart := false }
def MarkReadsSaid : Prop := markReadsRow.holds Try.pinned (OpenSpec.ofChange markReadsSpec)

/-- ITS FALSE NEIGHBOUR: 'it returns false'. Refute it at one input. -/
def markReadsWrong : ChangeSpec := { name := "markReads", fn := fun _ => fun
  | [d1, d2] => { results := [.lit (.bool false)], args := [d1, d2] }
  | _ => none }
def MarkReadsWrongFalsely : Prop := markReadsRow.holds Try.pinned (OpenSpec.ofChange markReadsWrong)

/-- 'tripartitetop.TripartiteSpans': WHATEVER THE INPUT: true; the input reads as it did. -/
def tripartiteSpansSpec : ChangeSpec := { name := "tripartiteSpans", fn := fun _ => fun
  | [d1, d2] => { results := [.lit (.bool true)], args := [d1, d2] }
  | _ => none }
def tripartiteSpansRow : OpenClaim := { program := "ytfiamddinkokbaa", sum := "ac46bc33d31faedd50a2786b98919981eccecbedb5ca7f9371d599d9e0154ac8", func := "tripartite/tripartitetop.TripartiteSpans", spec := "tripartiteSpans", inPlace := ["internal/bytealg.IndexByteString", "internal/bytealg.IndexString", "internal/abi.NoEscape", "internal/bytealg.MakeNoZero"], unfollowed := true, recurses := true, named := ["internal/bytealg.MaxLen"], apart := false }
def TripartiteSpansSaid : Prop := tripartiteSpansRow.holds Try.pinned (OpenSpec.ofChange tripartiteSpansSpec)

/-- ITS FALSE NEIGHBOUR: 'it returns false'. Refute it at one input. -/
def tripartiteSpansWrong : ChangeSpec := { name := "tripartiteSpans", fn := fun _ => fun
  | [d1, d2] => { results := [.lit (.bool false)], args := [d1, d2] }
  | _ => none }
def TripartiteSpansWrongFalsely : Prop := tripartiteSpansRow.holds Try.pinned (OpenSpec.ofChange tripartiteSpansWrong)

/-- 'tripartitelaw08.MarkWidths': WHATEVER THE INPUT: true; the input reads as it did. -/
def markWidthsSpec : ChangeSpec := { name := "markWidths", fn := fun _ => fun
  | [d1, d2, d3] => { results := [.lit (.bool true)], args := [d1, d2, d3] }
  | _ => none }
def markWidthsRow : OpenClaim := { program := "ytfiamddinkokbaa", sum := "ac46bc33d31faedd50a2786b98919981eccecbedb5ca7f9371d599d9e0154ac8", func := "tripartite/tripartitelaw08.MarkWidths", spec := "markWidths", inPlace := ["internal/bytealg.IndexByteString", "internal/bytealg.IndexString", "internal/abi.NoEscape", "internal/bytealg.MakeNoZero"], unfollowed := true, recurses := true, named := ["internal/bytealg.MaxLen"], apart := false }
def MarkWidthsSaid : Prop := markWidthsRow.holds Try.pinned (OpenSpec.ofChange markWidthsSpec)

/-- ITS FALSE NEIGHBOUR: 'it returns false'. Refute it at one input. -/
def markWidthsWrong : ChangeSpec := { name := "markWidths", fn := fun _ => fun
  | [d1, d2, d3] => { results := [.lit (.bool false)], args := [d1, d2, d3] }
  | _ => none }
def MarkWidthsWrongFalsely : Prop := markWidthsRow.holds Try.pinned (OpenSpec.ofChange markWidthsWrong)

/-- 'tripartitelaw09.ParseBack': WHATEVER THE INPUT: true; the input reads as it did. -/
def parseBackSpec : ChangeSpec := { name := "parseBack", fn := fun _ => fun
  | [d1, d2] => { results := [.lit (.bool true)], args := [d1, d2] }
  | _ => none }
def parseBackRow : OpenClaim := { program := "ytfiamddinkokbaa", sum := "ac46bc33d31faedd50a2786b98919981eccecbedb5ca7f9371d599d9e0154ac8", func := "tripartite/tripartitelaw09.ParseBack", spec := "parseBack", inPlace := ["internal/bytealg.IndexByteString", "internal/bytealg.IndexString", "internal/abi.NoEscape", "internal/bytealg.MakeNoZero"], unfollowed := true, recurses := true, named := ["internal/bytealg.MaxLen"], apart := false }
def ParseBackSaid : Prop := parseBackRow.holds Try.pinned (OpenSpec.ofChange parseBackSpec)

/-- ITS FALSE NEIGHBOUR: 'it returns false'. Refute it at one input. -/
def parseBackWrong : ChangeSpec := { name := "parseBack", fn := fun _ => fun
  | [d1, d2] => { results := [.lit (.bool false)], args := [d1, d2] }
  | _ => none }
def ParseBackWrongFalsely : Prop := parseBackRow.holds Try.pinned (OpenSpec.ofChange parseBackWrong)

/-- 'tripartitetop.TripartiteApart': WHATEVER THE INPUT: true; the input reads as it did. -/
def tripartiteApartSpec : ChangeSpec := { name := "tripartiteApart", fn := fun _ => fun
  | [d1, d2] => { results := [.lit (.bool true)], args := [d1, d2] }
  | _ => none }
def tripartiteApartRow : OpenClaim := { program := "ytfiamddinkokbaa", sum := "ac46bc33d31faedd50a2786b98919981eccecbedb5ca7f9371d599d9e0154ac8", func := "tripartite/tripartitetop.TripartiteApart", spec := "tripartiteApart", inPlace := ["internal/bytealg.IndexByteString", "internal/bytealg.IndexString", "internal/abi.NoEscape", "internal/bytealg.MakeNoZero"], unfollowed := true, recurses := true, named := ["internal/bytealg.MaxLen"], apart := false }
def TripartiteApartSaid : Prop := tripartiteApartRow.holds Try.pinned (OpenSpec.ofChange tripartiteApartSpec)

/-- ITS FALSE NEIGHBOUR: 'it returns false'. Refute it at one input. -/
def tripartiteApartWrong : ChangeSpec := { name := "tripartiteApart", fn := fun _ => fun
  | [d1, d2] => { results := [.lit (.bool false)], args := [d1, d2] }
  | _ => none }
def TripartiteApartWrongFalsely : Prop := tripartiteApartRow.holds Try.pinned (OpenSpec.ofChange tripartiteApartWrong)

/-- 'tripartitelaw12.MergeSames': WHATEVER THE INPUT: true; the input reads as it did. -/
def mergeSamesSpec : ChangeSpec := { name := "mergeSames", fn := fun _ => fun
  | [d1, d2, d3] => { results := [.lit (.bool true)], args := [d1, d2, d3] }
  | _ => none }
def mergeSamesRow : OpenClaim := { program := "ytfiamddinkokbaa", sum := "ac46bc33d31faedd50a2786b98919981eccecbedb5ca7f9371d599d9e0154ac8", func := "tripartite/tripartitelaw12.MergeSames", spec := "mergeSames", inPlace := ["internal/bytealg.IndexByteString", "internal/bytealg.IndexString", "internal/abi.NoEscape", "internal/bytealg.MakeNoZero"], unfollowed := true, recurses := true, named := ["internal/bytealg.MaxLen"], apart := false }
def MergeSamesSaid : Prop := mergeSamesRow.holds Try.pinned (OpenSpec.ofChange mergeSamesSpec)

/-- ITS FALSE NEIGHBOUR: 'it returns false'. Refute it at one input. -/
def mergeSamesWrong : ChangeSpec := { name := "mergeSames", fn := fun _ => fun
  | [d1, d2, d3] => { results := [.lit (.bool false)], args := [d1, d2, d3] }
  | _ => none }
def MergeSamesWrongFalsely : Prop := mergeSamesRow.holds Try.pinned (OpenSpec.ofChange mergeSamesWrong)

/-- 'tripartitelaw12.MergeAgain': WHATEVER THE INPUT: true; the input reads as it did. -/
def mergeAgainSpec : ChangeSpec := { name := "mergeAgain", fn := fun _ => fun
  | [d1, d2] => { results := [.lit (.bool true)], args := [d1, d2] }
  | _ => none }
def mergeAgainRow : OpenClaim := { program := "ytfiamddinkokbaa", sum := "ac46bc33d31faedd50a2786b98919981eccecbedb5ca7f9371d599d9e0154ac8", func := "tripartite/tripartitelaw12.MergeAgain", spec := "mergeAgain", inPlace := ["internal/bytealg.IndexByteString", "internal/bytealg.IndexString", "internal/abi.NoEscape", "internal/bytealg.MakeNoZero"], unfollowed := true, recurses := true, named := ["internal/bytealg.MaxLen"], apart := false }
def MergeAgainSaid : Prop := mergeAgainRow.holds Try.pinned (OpenSpec.ofChange mergeAgainSpec)

/-- ITS FALSE NEIGHBOUR: 'it returns false'. Refute it at one input. -/
def mergeAgainWrong : ChangeSpec := { name := "mergeAgain", fn := fun _ => fun
  | [d1, d2] => { results := [.lit (.bool false)], args := [d1, d2] }
  | _ => none }
def MergeAgainWrongFalsely : Prop := mergeAgainRow.holds Try.pinned (OpenSpec.ofChange mergeAgainWrong)

/-- 'tripartitelaw12.MergeTurns': WHATEVER THE INPUT: true; the input reads as it did. -/
def mergeTurnsSpec : ChangeSpec := { name := "mergeTurns", fn := fun _ => fun
  | [d1, d2] => { results := [.lit (.bool true)], args := [d1, d2] }
  | _ => none }
def mergeTurnsRow : OpenClaim := { program := "ytfiamddinkokbaa", sum := "ac46bc33d31faedd50a2786b98919981eccecbedb5ca7f9371d599d9e0154ac8", func := "tripartite/tripartitelaw12.MergeTurns", spec := "mergeTurns", inPlace := ["internal/bytealg.IndexByteString", "internal/bytealg.IndexString", "internal/abi.NoEscape", "internal/bytealg.MakeNoZero"], unfollowed := true, recurses := true, named := ["internal/bytealg.MaxLen"], apart := false }
def MergeTurnsSaid : Prop := mergeTurnsRow.holds Try.pinned (OpenSpec.ofChange mergeTurnsSpec)

/-- ITS FALSE NEIGHBOUR: 'it returns false'. Refute it at one input. -/
def mergeTurnsWrong : ChangeSpec := { name := "mergeTurns", fn := fun _ => fun
  | [d1, d2] => { results := [.lit (.bool false)], args := [d1, d2] }
  | _ => none }
def MergeTurnsWrongFalsely : Prop := mergeTurnsRow.holds Try.pinned (OpenSpec.ofChange mergeTurnsWrong)

/-- 'tripartitetop.TripartiteSides': WHATEVER THE INPUT: true; the input reads as it did. -/
def tripartiteSidesSpec : ChangeSpec := { name := "tripartiteSides", fn := fun _ => fun
  | [d1, d2, d3] => { results := [.lit (.bool true)], args := [d1, d2, d3] }
  | _ => none }
def tripartiteSidesRow : OpenClaim := { program := "ytfiamddinkokbaa", sum := "ac46bc33d31faedd50a2786b98919981eccecbedb5ca7f9371d599d9e0154ac8", func := "tripartite/tripartitetop.TripartiteSides", spec := "tripartiteSides", inPlace := ["internal/bytealg.IndexByteString", "internal/bytealg.IndexString", "internal/abi.NoEscape", "internal/bytealg.MakeNoZero"], unfollowed := true, recurses := true, named := ["internal/bytealg.MaxLen"], apart := false }
def TripartiteSidesSaid : Prop := tripartiteSidesRow.holds Try.pinned (OpenSpec.ofChange tripartiteSidesSpec)

/-- ITS FALSE NEIGHBOUR: 'it returns false'. Refute it at one input. -/
def tripartiteSidesWrong : ChangeSpec := { name := "tripartiteSides", fn := fun _ => fun
  | [d1, d2, d3] => { results := [.lit (.bool false)], args := [d1, d2, d3] }
  | _ => none }
def TripartiteSidesWrongFalsely : Prop := tripartiteSidesRow.holds Try.pinned (OpenSpec.ofChange tripartiteSidesWrong)

/- THE SECOND FORM. 'bulk': how many values and letters a reading holds, each counted each time it is reached (what is shared counts as often as it is met; a slice's spare places count too). A statement '..UptoSaid' is the law's where the arguments, and the package variables that the reading takes, are together of bulk at most 1048576: NARROWER than '..Said'. Prove '..Said' where nothing that the law and all that it calls make is longer than what came in: it says more and counts as full. Else prove '..UptoSaid'. A law counts once. -/
mutual
def uptoBulk {H : Type} : DataW H → Nat
  | .lit (.string bytes) => bytes.length + 1
  | .lit _ => 1
  | .nil => 1
  | .ptr d => uptoBulk d + 1
  | .slice elems spare => uptoBulkAll elems + uptoBulkAll spare + 1
  | .agg parts => uptoBulkAll parts + 1
  | .iface _ d => uptoBulk d + 1
  | .map entries => uptoBulkEntries entries + 1
  | .held _ => 1
def uptoBulkAll {H : Type} : List (DataW H) → Nat
  | [] => 0
  | d :: r => uptoBulk d + uptoBulkAll r
def uptoBulkEntries {H : Type} : List (Lit × DataW H) → Nat
  | [] => 0
  | x :: r => uptoBulkEntry x + uptoBulkEntries r
def uptoBulkEntry {H : Type} : Lit × DataW H → Nat
  | (.string bytes, d) => bytes.length + uptoBulk d + 1
  | (_, d) => uptoBulk d + 1
 end
def uptoSmall : (H : Type) → List (DataW H) → Bool := fun _ ds => decide (uptoBulkAll ds ≤ 1048576)
def OpenSpec.upto (s : _root_.Go.ChangeSpec) : _root_.Go.OpenSpec := { _root_.Go.OpenSpec.ofChange s with cond := some uptoSmall }

/-- 'tripartitelaw07.DocWidths', WHERE WHAT IT READS IS OF BULK AT MOST 1048576: true; the input reads as it did. -/
def docWidthsUptoRow : OpenClaim := { program := "ytfiamddinkokbaa", sum := "ac46bc33d31faedd50a2786b98919981eccecbedb5ca7f9371d599d9e0154ac8", func := "tripartite/tripartitelaw07.DocWidths", spec := "docWidths", inPlace := ["internal/bytealg.IndexByteString", "internal/bytealg.IndexString"], unfollowed := true, recurses := true, named := ["internal/bytealg.MaxLen"], apart := false, narrowed := true }
def DocWidthsUptoSaid : Prop := docWidthsUptoRow.holds Try.pinned (OpenSpec.upto docWidthsSpec)

/-- 'tripartitelaw07.DocJoins', WHERE WHAT IT READS IS OF BULK AT MOST 1048576: true; the input reads as it did. -/
def docJoinsUptoRow : OpenClaim := { program := "ytfiamddinkokbaa", sum := "ac46bc33d31faedd50a2786b98919981eccecbedb5ca7f9371d599d9e0154ac8", func := "tripartite/tripartitelaw07.DocJoins", spec := "docJoins", inPlace := ["internal/bytealg.IndexByteString", "internal/bytealg.IndexString"], unfollowed := true, recurses := true, named := ["internal/bytealg.MaxLen"], apart := false, narrowed := true }
def DocJoinsUptoSaid : Prop := docJoinsUptoRow.holds Try.pinned (OpenSpec.upto docJoinsSpec)

/-- 'tripartitelaw01.LinesSplits', WHERE WHAT IT READS IS OF BULK AT MOST 1048576: true; the input reads as it did. -/
def linesSplitsUptoRow : OpenClaim := { program := "ytfiamddinkokbaa", sum := "ac46bc33d31faedd50a2786b98919981eccecbedb5ca7f9371d599d9e0154ac8", func := "tripartite/tripartitelaw01.LinesSplits", spec := "linesSplits", inPlace := ["internal/bytealg.IndexByteString", "internal/abi.NoEscape", "internal/bytealg.MakeNoZero", "internal/bytealg.IndexString"], unfollowed := true, recurses := true, named := ["internal/bytealg.MaxLen"], apart := false, narrowed := true }
def LinesSplitsUptoSaid : Prop := linesSplitsUptoRow.holds Try.pinned (OpenSpec.upto linesSplitsSpec)

/-- 'tripartitelaw01.LinesJoins', WHERE WHAT IT READS IS OF BULK AT MOST 1048576: true; the input reads as it did. -/
def linesJoinsUptoRow : OpenClaim := { program := "ytfiamddinkokbaa", sum := "ac46bc33d31faedd50a2786b98919981eccecbedb5ca7f9371d599d9e0154ac8", func := "tripartite/tripartitelaw01.LinesJoins", spec := "linesJoins", inPlace := ["internal/bytealg.IndexByteString", "internal/abi.NoEscape", "internal/bytealg.MakeNoZero", "internal/bytealg.IndexString"], unfollowed := true, recurses := true, named := ["internal/bytealg.MaxLen"], apart := false, narrowed := true }
def LinesJoinsUptoSaid : Prop := linesJoinsUptoRow.holds Try.pinned (OpenSpec.upto linesJoinsSpec)

/-- 'tripartitelaw01.LinesNumbers', WHERE WHAT IT READS IS OF BULK AT MOST 1048576: true; the input reads as it did. -/
def linesNumbersUptoRow : OpenClaim := { program := "ytfiamddinkokbaa", sum := "ac46bc33d31faedd50a2786b98919981eccecbedb5ca7f9371d599d9e0154ac8", func := "tripartite/tripartitelaw01.LinesNumbers", spec := "linesNumbers", inPlace := ["internal/bytealg.IndexByteString", "internal/abi.NoEscape", "internal/bytealg.MakeNoZero", "internal/bytealg.IndexString"], unfollowed := true, recurses := true, named := ["internal/bytealg.MaxLen"], apart := false, narrowed := true }
def LinesNumbersUptoSaid : Prop := linesNumbersUptoRow.holds Try.pinned (OpenSpec.upto linesNumbersSpec)

/-- 'tripartitelaw08.MarkPrints', WHERE WHAT IT READS IS OF BULK AT MOST 1048576: true; the input reads as it did. -/
def markPrintsUptoRow : OpenClaim := { program := "ytfiamddinkokbaa", sum := "ac46bc33d31faedd50a2786b98919981eccecbedb5ca7f9371d599d9e0154ac8", func := "tripartite/tripartitelaw08.MarkPrints", spec := "markPrints", inPlace := ["internal/bytealg.IndexByteString", "internal/bytealg.IndexString", "internal/abi.NoEscape", "internal/bytealg.MakeNoZero"], unfollowed := true, recurses := true, named := ["internal/bytealg.MaxLen"], apart := false, narrowed := true }
def MarkPrintsUptoSaid : Prop := markPrintsUptoRow.holds Try.pinned (OpenSpec.upto markPrintsSpec)

/-- 'tripartitelaw08.MarkLines', WHERE WHAT IT READS IS OF BULK AT MOST 1048576: true; the input reads as it did. -/
def markLinesUptoRow : OpenClaim := { program := "ytfiamddinkokbaa", sum := "ac46bc33d31faedd50a2786b98919981eccecbedb5ca7f9371d599d9e0154ac8", func := "tripartite/tripartitelaw08.MarkLines", spec := "markLines", inPlace := ["internal/bytealg.IndexByteString", "internal/bytealg.IndexString", "internal/abi.NoEscape", "internal/bytealg.MakeNoZero"], unfollowed := true, recurses := true, named := ["internal/bytealg.MaxLen"], apart := false, narrowed := true }
def MarkLinesUptoSaid : Prop := markLinesUptoRow.holds Try.pinned (OpenSpec.upto markLinesSpec)

/-- 'tripartitelaw08.MarkReads', WHERE WHAT IT READS IS OF BULK AT MOST 1048576: true; the input reads as it did. -/
def markReadsUptoRow : OpenClaim := { program := "ytfiamddinkokbaa", sum := "ac46bc33d31faedd50a2786b98919981eccecbedb5ca7f9371d599d9e0154ac8", func := "tripartite/tripartitelaw08.MarkReads", spec := "markReads", inPlace := ["internal/bytealg.IndexByteString", "internal/bytealg.IndexString", "internal/abi.NoEscape", "internal/bytealg.MakeNoZero"], unfollowed := true, recurses := true, named := ["internal/bytealg.MaxLen"], apart := false, narrowed := true }
def MarkReadsUptoSaid : Prop := markReadsUptoRow.holds Try.pinned (OpenSpec.upto markReadsSpec)

/-- 'tripartitetop.TripartiteSpans', WHERE WHAT IT READS IS OF BULK AT MOST 1048576: true; the input reads as it did. -/
def tripartiteSpansUptoRow : OpenClaim := { program := "ytfiamddinkokbaa", sum := "ac46bc33d31faedd50a2786b98919981eccecbedb5ca7f9371d599d9e0154ac8", func := "tripartite/tripartitetop.TripartiteSpans", spec := "tripartiteSpans", inPlace := ["internal/bytealg.IndexByteString", "internal/bytealg.IndexString", "internal/abi.NoEscape", "internal/bytealg.MakeNoZero"], unfollowed := true, recurses := true, named := ["internal/bytealg.MaxLen"], apart := false, narrowed := true }
def TripartiteSpansUptoSaid : Prop := tripartiteSpansUptoRow.holds Try.pinned (OpenSpec.upto tripartiteSpansSpec)

/-- 'tripartitelaw08.MarkWidths', WHERE WHAT IT READS IS OF BULK AT MOST 1048576: true; the input reads as it did. -/
def markWidthsUptoRow : OpenClaim := { program := "ytfiamddinkokbaa", sum := "ac46bc33d31faedd50a2786b98919981eccecbedb5ca7f9371d599d9e0154ac8", func := "tripartite/tripartitelaw08.MarkWidths", spec := "markWidths", inPlace := ["internal/bytealg.IndexByteString", "internal/bytealg.IndexString", "internal/abi.NoEscape", "internal/bytealg.MakeNoZero"], unfollowed := true, recurses := true, named := ["internal/bytealg.MaxLen"], apart := false, narrowed := true }
def MarkWidthsUptoSaid : Prop := markWidthsUptoRow.holds Try.pinned (OpenSpec.upto markWidthsSpec)

/-- 'tripartitelaw09.ParseBack', WHERE WHAT IT READS IS OF BULK AT MOST 1048576: true; the input reads as it did. -/
def parseBackUptoRow : OpenClaim := { program := "ytfiamddinkokbaa", sum := "ac46bc33d31faedd50a2786b98919981eccecbedb5ca7f9371d599d9e0154ac8", func := "tripartite/tripartitelaw09.ParseBack", spec := "parseBack", inPlace := ["internal/bytealg.IndexByteString", "internal/bytealg.IndexString", "internal/abi.NoEscape", "internal/bytealg.MakeNoZero"], unfollowed := true, recurses := true, named := ["internal/bytealg.MaxLen"], apart := false, narrowed := true }
def ParseBackUptoSaid : Prop := parseBackUptoRow.holds Try.pinned (OpenSpec.upto parseBackSpec)

/-- 'tripartitetop.TripartiteApart', WHERE WHAT IT READS IS OF BULK AT MOST 1048576: true; the input reads as it did. -/
def tripartiteApartUptoRow : OpenClaim := { program := "ytfiamddinkokbaa", sum := "ac46bc33d31faedd50a2786b98919981eccecbedb5ca7f9371d599d9e0154ac8", func := "tripartite/tripartitetop.TripartiteApart", spec := "tripartiteApart", inPlace := ["internal/bytealg.IndexByteString", "internal/bytealg.IndexString", "internal/abi.NoEscape", "internal/bytealg.MakeNoZero"], unfollowed := true, recurses := true, named := ["internal/bytealg.MaxLen"], apart := false, narrowed := true }
def TripartiteApartUptoSaid : Prop := tripartiteApartUptoRow.holds Try.pinned (OpenSpec.upto tripartiteApartSpec)

/-- 'tripartitelaw12.MergeSames', WHERE WHAT IT READS IS OF BULK AT MOST 1048576: true; the input reads as it did. -/
def mergeSamesUptoRow : OpenClaim := { program := "ytfiamddinkokbaa", sum := "ac46bc33d31faedd50a2786b98919981eccecbedb5ca7f9371d599d9e0154ac8", func := "tripartite/tripartitelaw12.MergeSames", spec := "mergeSames", inPlace := ["internal/bytealg.IndexByteString", "internal/bytealg.IndexString", "internal/abi.NoEscape", "internal/bytealg.MakeNoZero"], unfollowed := true, recurses := true, named := ["internal/bytealg.MaxLen"], apart := false, narrowed := true }
def MergeSamesUptoSaid : Prop := mergeSamesUptoRow.holds Try.pinned (OpenSpec.upto mergeSamesSpec)

/-- 'tripartitelaw12.MergeAgain', WHERE WHAT IT READS IS OF BULK AT MOST 1048576: true; the input reads as it did. -/
def mergeAgainUptoRow : OpenClaim := { program := "ytfiamddinkokbaa", sum := "ac46bc33d31faedd50a2786b98919981eccecbedb5ca7f9371d599d9e0154ac8", func := "tripartite/tripartitelaw12.MergeAgain", spec := "mergeAgain", inPlace := ["internal/bytealg.IndexByteString", "internal/bytealg.IndexString", "internal/abi.NoEscape", "internal/bytealg.MakeNoZero"], unfollowed := true, recurses := true, named := ["internal/bytealg.MaxLen"], apart := false, narrowed := true }
def MergeAgainUptoSaid : Prop := mergeAgainUptoRow.holds Try.pinned (OpenSpec.upto mergeAgainSpec)

/-- 'tripartitelaw12.MergeTurns', WHERE WHAT IT READS IS OF BULK AT MOST 1048576: true; the input reads as it did. -/
def mergeTurnsUptoRow : OpenClaim := { program := "ytfiamddinkokbaa", sum := "ac46bc33d31faedd50a2786b98919981eccecbedb5ca7f9371d599d9e0154ac8", func := "tripartite/tripartitelaw12.MergeTurns", spec := "mergeTurns", inPlace := ["internal/bytealg.IndexByteString", "internal/bytealg.IndexString", "internal/abi.NoEscape", "internal/bytealg.MakeNoZero"], unfollowed := true, recurses := true, named := ["internal/bytealg.MaxLen"], apart := false, narrowed := true }
def MergeTurnsUptoSaid : Prop := mergeTurnsUptoRow.holds Try.pinned (OpenSpec.upto mergeTurnsSpec)

/-- 'tripartitetop.TripartiteSides', WHERE WHAT IT READS IS OF BULK AT MOST 1048576: true; the input reads as it did. -/
def tripartiteSidesUptoRow : OpenClaim := { program := "ytfiamddinkokbaa", sum := "ac46bc33d31faedd50a2786b98919981eccecbedb5ca7f9371d599d9e0154ac8", func := "tripartite/tripartitetop.TripartiteSides", spec := "tripartiteSides", inPlace := ["internal/bytealg.IndexByteString", "internal/bytealg.IndexString", "internal/abi.NoEscape", "internal/bytealg.MakeNoZero"], unfollowed := true, recurses := true, named := ["internal/bytealg.MaxLen"], apart := false, narrowed := true }
def TripartiteSidesUptoSaid : Prop := tripartiteSidesUptoRow.holds Try.pinned (OpenSpec.upto tripartiteSidesSpec)

end Rows
end Go.Proofs.Ytfiamddinkokbaa
