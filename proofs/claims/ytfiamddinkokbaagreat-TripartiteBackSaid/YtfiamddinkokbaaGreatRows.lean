/-
  No cell of these rows narrows 'for every input' (looked for: loops, veiled, ifaces, maps, wideKeys, modest, calm, conditions, laid).
  DERIVED. THE GIVEN ROWS OF THIS SEAT. 4 by the template 'for every input the law returns true; each argument reads behind the call as it read before'; 0 by the template 'total and deterministic' (their statements: YtfiamddinkokbaaGreatTotals.lean).
  GIVEN WITH THE SEED: the statements are not yours to turn. If you find one false, say at which input.
  Laid BY PROGRAM, IN A SANDBOX (cutbox-rows.mjs): the forced cells as the released guide's own fill.sh prints them over the translation f8be0f22f6079565… (all of the seat's roots in one cut). By AI agents, Wed Nov 11 2026. No macro, syntax, notation, axiom, sorry.
-/
import Derived.Test.YtfiamddinkokbaaGreatChecked
import GoSem.Claim
import GoSem.ClaimJoined
import GoSem.ClaimMapViews
import Derived.JoinedTies
import Derived.KernelRfl
namespace Go.Proofs.YtfiamddinkokbaaGreat
/- THE CELL 'sum', in the pinned program and in every row, IS THE sha256 OF THE DUMP (.gsa) THAT YtfiamddinkokbaaGreatProg.lean LOADS. Nothing in Lean hashes anything: it is a label: what it is worth is what the hold of that sum in a sandbox is worth. -/
noncomputable def Tryz.pinned : Pinned := { name := "ytfiamddinkokbaagreat", sum := "f8be0f22f6079565048200bf22ad9d9a3a3d52122ecd883d4fd7d4231bb70a70", checked := Tryz.checked }
namespace Rows
def none {H : Type} : Left H := { results := [], args := [] }

/-- 'tripartitetop.TripartiteMerges': WHATEVER THE INPUT: true; the input reads as it did. -/
def tripartiteMergesSpec : ChangeSpec := { name := "tripartiteMerges", fn := fun _ => fun
  | [d1, d2] => { results := [.lit (.bool true)], args := [d1, d2] }
  | _ => none }
def tripartiteMergesRow : OpenClaim := { program := "ytfiamddinkokbaagreat", sum := "f8be0f22f6079565048200bf22ad9d9a3a3d52122ecd883d4fd7d4231bb70a70", func := "tripartite/tripartitetop.TripartiteMerges", spec := "tripartiteMerges", inPlace := ["internal/bytealg.IndexByteString", "internal/bytealg.IndexString", "internal/abi.NoEscape", "internal/bytealg.MakeNoZero"], unfollowed := true, recurses := true, named := ["internal/bytealg.MaxLen"], apart := false }
def TripartiteMergesSaid : Prop := tripartiteMergesRow.holds Tryz.pinned (OpenSpec.ofChange tripartiteMergesSpec)

/-- ITS FALSE NEIGHBOUR: 'it returns false'. Refute it at one input. -/
def tripartiteMergesWrong : ChangeSpec := { name := "tripartiteMerges", fn := fun _ => fun
  | [d1, d2] => { results := [.lit (.bool false)], args := [d1, d2] }
  | _ => none }
def TripartiteMergesWrongFalsely : Prop := tripartiteMergesRow.holds Tryz.pinned (OpenSpec.ofChange tripartiteMergesWrong)

/-- 'tripartitelaw12.MergeTexts': WHATEVER THE INPUT: true; the input reads as it did. -/
def mergeTextsSpec : ChangeSpec := { name := "mergeTexts", fn := fun _ => fun
  | [d1, d2] => { results := [.lit (.bool true)], args := [d1, d2] }
  | _ => none }
def mergeTextsRow : OpenClaim := { program := "ytfiamddinkokbaagreat", sum := "f8be0f22f6079565048200bf22ad9d9a3a3d52122ecd883d4fd7d4231bb70a70", func := "tripartite/tripartitelaw12.MergeTexts", spec := "mergeTexts", inPlace := ["internal/bytealg.IndexByteString", "internal/bytealg.IndexString", "internal/abi.NoEscape", "internal/bytealg.MakeNoZero"], unfollowed := true, recurses := true, named := ["internal/bytealg.MaxLen"], apart := false }
def MergeTextsSaid : Prop := mergeTextsRow.holds Tryz.pinned (OpenSpec.ofChange mergeTextsSpec)

/-- ITS FALSE NEIGHBOUR: 'it returns false'. Refute it at one input. -/
def mergeTextsWrong : ChangeSpec := { name := "mergeTexts", fn := fun _ => fun
  | [d1, d2] => { results := [.lit (.bool false)], args := [d1, d2] }
  | _ => none }
def MergeTextsWrongFalsely : Prop := mergeTextsRow.holds Tryz.pinned (OpenSpec.ofChange mergeTextsWrong)

/-- 'tripartitelaw12.MergeBases': WHATEVER THE INPUT: true; the input reads as it did. -/
def mergeBasesSpec : ChangeSpec := { name := "mergeBases", fn := fun _ => fun
  | [d1, d2] => { results := [.lit (.bool true)], args := [d1, d2] }
  | _ => none }
def mergeBasesRow : OpenClaim := { program := "ytfiamddinkokbaagreat", sum := "f8be0f22f6079565048200bf22ad9d9a3a3d52122ecd883d4fd7d4231bb70a70", func := "tripartite/tripartitelaw12.MergeBases", spec := "mergeBases", inPlace := ["internal/bytealg.IndexByteString", "internal/bytealg.IndexString", "internal/abi.NoEscape", "internal/bytealg.MakeNoZero"], unfollowed := true, recurses := true, named := ["internal/bytealg.MaxLen"], apart := false }
def MergeBasesSaid : Prop := mergeBasesRow.holds Tryz.pinned (OpenSpec.ofChange mergeBasesSpec)

/-- ITS FALSE NEIGHBOUR: 'it returns false'. Refute it at one input. -/
def mergeBasesWrong : ChangeSpec := { name := "mergeBases", fn := fun _ => fun
  | [d1, d2] => { results := [.lit (.bool false)], args := [d1, d2] }
  | _ => none }
def MergeBasesWrongFalsely : Prop := mergeBasesRow.holds Tryz.pinned (OpenSpec.ofChange mergeBasesWrong)

/-- 'tripartitetop.TripartiteBack': WHATEVER THE INPUT: true; the input reads as it did. -/
def tripartiteBackSpec : ChangeSpec := { name := "tripartiteBack", fn := fun _ => fun
  | [d1, d2] => { results := [.lit (.bool true)], args := [d1, d2] }
  | _ => none }
def tripartiteBackRow : OpenClaim := { program := "ytfiamddinkokbaagreat", sum := "f8be0f22f6079565048200bf22ad9d9a3a3d52122ecd883d4fd7d4231bb70a70", func := "tripartite/tripartitetop.TripartiteBack", spec := "tripartiteBack", inPlace := ["internal/bytealg.IndexByteString", "internal/bytealg.IndexString", "internal/abi.NoEscape", "internal/bytealg.MakeNoZero"], unfollowed := true, recurses := true, named := ["internal/bytealg.MaxLen"], apart := false }
def TripartiteBackSaid : Prop := tripartiteBackRow.holds Tryz.pinned (OpenSpec.ofChange tripartiteBackSpec)

/-- ITS FALSE NEIGHBOUR: 'it returns false'. Refute it at one input. -/
def tripartiteBackWrong : ChangeSpec := { name := "tripartiteBack", fn := fun _ => fun
  | [d1, d2] => { results := [.lit (.bool false)], args := [d1, d2] }
  | _ => none }
def TripartiteBackWrongFalsely : Prop := tripartiteBackRow.holds Tryz.pinned (OpenSpec.ofChange tripartiteBackWrong)

/- THE SECOND FORM. 'bulk': how many values and letters a reading holds, each counted each time it is reached (what is shared counts as often as it is met; a slice's spare places count too). A statement '..UptoSaid' is the law's where the arguments, and the package variables that the reading takes, are together of bulk at most 1048576: NARROWER than '..Said'. Prove '..Said' where nothing that the law and all that it calls make is longer than what came in: it says more and counts as full. Else prove '..UptoSaid'. A law counts once. -/
mutual
def uptoBulk {H : Type} : DataW H → Nat
  | .lit (.string bytes) => bytes.length + 1
  | .lit _ => 1
  | .nil => 1
  | .ptr d => uptoBulk d + 1
  | .slice elems spare => uptoBulkAll elems + uptoBulkAll spare + 1
  | .agg parts => uptoBulkAll parts + 1
  | .iface _ d => uptoBulk d + 1
  | .map entries => uptoBulkEntries entries + 1
  | .held _ => 1
def uptoBulkAll {H : Type} : List (DataW H) → Nat
  | [] => 0
  | d :: r => uptoBulk d + uptoBulkAll r
def uptoBulkEntries {H : Type} : List (Lit × DataW H) → Nat
  | [] => 0
  | x :: r => uptoBulkEntry x + uptoBulkEntries r
def uptoBulkEntry {H : Type} : Lit × DataW H → Nat
  | (.string bytes, d) => bytes.length + uptoBulk d + 1
  | (_, d) => uptoBulk d + 1
 end
def uptoSmall : (H : Type) → List (DataW H) → Bool := fun _ ds => decide (uptoBulkAll ds ≤ 1048576)
def OpenSpec.upto (s : _root_.Go.ChangeSpec) : _root_.Go.OpenSpec := { _root_.Go.OpenSpec.ofChange s with cond := some uptoSmall }

/-- 'tripartitetop.TripartiteMerges', WHERE WHAT IT READS IS OF BULK AT MOST 1048576: true; the input reads as it did. -/
def tripartiteMergesUptoRow : OpenClaim := { program := "ytfiamddinkokbaagreat", sum := "f8be0f22f6079565048200bf22ad9d9a3a3d52122ecd883d4fd7d4231bb70a70", func := "tripartite/tripartitetop.TripartiteMerges", spec := "tripartiteMerges", inPlace := ["internal/bytealg.IndexByteString", "internal/bytealg.IndexString", "internal/abi.NoEscape", "internal/bytealg.MakeNoZero"], unfollowed := true, recurses := true, named := ["internal/bytealg.MaxLen"], apart := false, narrowed := true }
def TripartiteMergesUptoSaid : Prop := tripartiteMergesUptoRow.holds Tryz.pinned (OpenSpec.upto tripartiteMergesSpec)

/-- 'tripartitelaw12.MergeTexts', WHERE WHAT IT READS IS OF BULK AT MOST 1048576: true; the input reads as it did. -/
def mergeTextsUptoRow : OpenClaim := { program := "ytfiamddinkokbaagreat", sum := "f8be0f22f6079565048200bf22ad9d9a3a3d52122ecd883d4fd7d4231bb70a70", func := "tripartite/tripartitelaw12.MergeTexts", spec := "mergeTexts", inPlace := ["internal/bytealg.IndexByteString", "internal/bytealg.IndexString", "internal/abi.NoEscape", "internal/bytealg.MakeNoZero"], unfollowed := true, recurses := true, named := ["internal/bytealg.MaxLen"], apart := false, narrowed := true }
def MergeTextsUptoSaid : Prop := mergeTextsUptoRow.holds Tryz.pinned (OpenSpec.upto mergeTextsSpec)

/-- 'tripartitelaw12.MergeBases', WHERE WHAT IT READS IS OF BULK AT MOST 1048576: true; the input reads as it did. -/
def mergeBasesUptoRow : OpenClaim := { program := "ytfiamddinkokbaagreat", sum := "f8be0f22f6079565048200bf22ad9d9a3a3d52122ecd883d4fd7d4231bb70a70", func := "tripartite/tripartitelaw12.MergeBases", spec := "mergeBases", inPlace := ["internal/bytealg.IndexByteString", "internal/bytealg.IndexString", "internal/abi.NoEscape", "internal/bytealg.MakeNoZero"], unfollowed := true, recurses := true, named := ["internal/bytealg.MaxLen"], apart := false, narrowed := true }
def MergeBasesUptoSaid : Prop := mergeBasesUptoRow.holds Tryz.pinned (OpenSpec.upto mergeBasesSpec)

/-- 'tripartitetop.TripartiteBack', WHERE WHAT IT READS IS OF BULK AT MOST 1048576: true; the input reads as it did. -/
def tripartiteBackUptoRow : OpenClaim := { program := "ytfiamddinkokbaagreat", sum := "f8be0f22f6079565048200bf22ad9d9a3a3d52122ecd883d4fd7d4231bb70a70", func := "tripartite/tripartitetop.TripartiteBack", spec := "tripartiteBack", inPlace := ["internal/bytealg.IndexByteString", "internal/bytealg.IndexString", "internal/abi.NoEscape", "internal/bytealg.MakeNoZero"], unfollowed := true, recurses := true, named := ["internal/bytealg.MaxLen"], apart := false, narrowed := true }
def TripartiteBackUptoSaid : Prop := tripartiteBackUptoRow.holds Tryz.pinned (OpenSpec.upto tripartiteBackSpec)

end Rows
end Go.Proofs.YtfiamddinkokbaaGreat
