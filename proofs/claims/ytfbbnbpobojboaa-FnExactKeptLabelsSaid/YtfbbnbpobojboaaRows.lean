/-
  No cell of these rows narrows 'for every input' (looked for: loops, veiled, ifaces, maps, wideKeys, modest, calm, conditions, laid).
  DERIVED. THE GIVEN ROWS OF THIS SEAT. 10 by the template 'for every input the law returns true; each argument reads behind the call as it read before'; 0 by the template 'total and deterministic' (their statements: YtfbbnbpobojboaaTotals.lean).
  GIVEN WITH THE SEED: the statements are not yours to turn. If you find one false, say at which input.
  Laid BY PROGRAM, IN A SANDBOX (cutbox-rows.mjs): the forced cells as the released guide's own fill.sh prints them over the translation a10a1dff3fbcbd5c… (all of the seat's roots in one cut). By AI agents, Wed Nov 11 2026. No macro, syntax, notation, axiom, sorry.
-/
import Derived.Test.YtfbbnbpobojboaaChecked
import GoSem.Claim
import GoSem.ClaimJoined
import GoSem.ClaimMapViews
import Derived.JoinedTies
import Derived.KernelRfl
namespace Go.Proofs.Ytfbbnbpobojboaa
/- THE CELL 'sum', in the pinned program and in every row, IS THE sha256 OF THE DUMP (.gsa) THAT YtfbbnbpobojboaaProg.lean LOADS. Nothing in Lean hashes anything: it is a label: what it is worth is what the hold of that sum in a sandbox is worth. -/
noncomputable def Try.pinned : Pinned := { name := "ytfbbnbpobojboaa", sum := "a10a1dff3fbcbd5c12244834409bec2d9c62d049dc8308923907a39cf1159065", checked := Try.checked }
namespace Rows
def none {H : Type} : Left H := { results := [], args := [] }

/-- 'laws.FnExactExportView': WHATEVER THE INPUT: true; the input reads as it did. -/
def fnExactExportViewSpec : ChangeSpec := { name := "fnExactExportView", fn := fun _ => fun
  | [d1, d2] => { results := [.lit (.bool true)], args := [d1, d2] }
  | _ => none }
def fnExactExportViewRow : OpenClaim := { program := "ytfbbnbpobojboaa", sum := "a10a1dff3fbcbd5c12244834409bec2d9c62d049dc8308923907a39cf1159065", func := "loop.example/strideviews/laws.FnExactExportView", spec := "fnExactExportView", unfollowed := true, recurses := true, apart := false }
def FnExactExportViewSaid : Prop := fnExactExportViewRow.holds Try.pinned (OpenSpec.ofChange fnExactExportViewSpec)

/-- ITS FALSE NEIGHBOUR: 'it returns false'. Refute it at one input. -/
def fnExactExportViewWrong : ChangeSpec := { name := "fnExactExportView", fn := fun _ => fun
  | [d1, d2] => { results := [.lit (.bool false)], args := [d1, d2] }
  | _ => none }
def FnExactExportViewWrongFalsely : Prop := fnExactExportViewRow.holds Try.pinned (OpenSpec.ofChange fnExactExportViewWrong)

/-- 'laws.FnExactSplitDim': WHATEVER THE INPUT: true; the input reads as it did. -/
def fnExactSplitDimSpec : ChangeSpec := { name := "fnExactSplitDim", fn := fun _ => fun
  | [d1, d2, d3] => { results := [.lit (.bool true)], args := [d1, d2, d3] }
  | _ => none }
def fnExactSplitDimRow : OpenClaim := { program := "ytfbbnbpobojboaa", sum := "a10a1dff3fbcbd5c12244834409bec2d9c62d049dc8308923907a39cf1159065", func := "loop.example/strideviews/laws.FnExactSplitDim", spec := "fnExactSplitDim", inPlace := ["slices.overlaps[int]"], unfollowed := true, recurses := true, apart := false }
def FnExactSplitDimSaid : Prop := fnExactSplitDimRow.holds Try.pinned (OpenSpec.ofChange fnExactSplitDimSpec)

/-- ITS FALSE NEIGHBOUR: 'it returns false'. Refute it at one input. -/
def fnExactSplitDimWrong : ChangeSpec := { name := "fnExactSplitDim", fn := fun _ => fun
  | [d1, d2, d3] => { results := [.lit (.bool false)], args := [d1, d2, d3] }
  | _ => none }
def FnExactSplitDimWrongFalsely : Prop := fnExactSplitDimRow.holds Try.pinned (OpenSpec.ofChange fnExactSplitDimWrong)

/-- 'laws.FnExactReleaseExport': WHATEVER THE INPUT: true; the input reads as it did. -/
def fnExactReleaseExportSpec : ChangeSpec := { name := "fnExactReleaseExport", fn := fun _ => fun
  | [d1, d2] => { results := [.lit (.bool true)], args := [d1, d2] }
  | _ => none }
def fnExactReleaseExportRow : OpenClaim := { program := "ytfbbnbpobojboaa", sum := "a10a1dff3fbcbd5c12244834409bec2d9c62d049dc8308923907a39cf1159065", func := "loop.example/strideviews/laws.FnExactReleaseExport", spec := "fnExactReleaseExport", unfollowed := true, recurses := true, apart := false }
def FnExactReleaseExportSaid : Prop := fnExactReleaseExportRow.holds Try.pinned (OpenSpec.ofChange fnExactReleaseExportSpec)

/-- ITS FALSE NEIGHBOUR: 'it returns false'. Refute it at one input. -/
def fnExactReleaseExportWrong : ChangeSpec := { name := "fnExactReleaseExport", fn := fun _ => fun
  | [d1, d2] => { results := [.lit (.bool false)], args := [d1, d2] }
  | _ => none }
def FnExactReleaseExportWrongFalsely : Prop := fnExactReleaseExportRow.holds Try.pinned (OpenSpec.ofChange fnExactReleaseExportWrong)

/-- 'laws.FnExactResizeBuffer': WHATEVER THE INPUT: true; the input reads as it did. -/
def fnExactResizeBufferSpec : ChangeSpec := { name := "fnExactResizeBuffer", fn := fun _ => fun
  | [d1, d2] => { results := [.lit (.bool true)], args := [d1, d2] }
  | _ => none }
def fnExactResizeBufferRow : OpenClaim := { program := "ytfbbnbpobojboaa", sum := "a10a1dff3fbcbd5c12244834409bec2d9c62d049dc8308923907a39cf1159065", func := "loop.example/strideviews/laws.FnExactResizeBuffer", spec := "fnExactResizeBuffer", unfollowed := true, recurses := true, apart := false }
def FnExactResizeBufferSaid : Prop := fnExactResizeBufferRow.holds Try.pinned (OpenSpec.ofChange fnExactResizeBufferSpec)

/-- ITS FALSE NEIGHBOUR: 'it returns false'. Refute it at one input. -/
def fnExactResizeBufferWrong : ChangeSpec := { name := "fnExactResizeBuffer", fn := fun _ => fun
  | [d1, d2] => { results := [.lit (.bool false)], args := [d1, d2] }
  | _ => none }
def FnExactResizeBufferWrongFalsely : Prop := fnExactResizeBufferRow.holds Try.pinned (OpenSpec.ofChange fnExactResizeBufferWrong)

/-- 'laws.FnExactFillExport': WHATEVER THE INPUT: true; the input reads as it did. -/
def fnExactFillExportSpec : ChangeSpec := { name := "fnExactFillExport", fn := fun _ => fun
  | [d1, d2, d3] => { results := [.lit (.bool true)], args := [d1, d2, d3] }
  | _ => none }
def fnExactFillExportRow : OpenClaim := { program := "ytfbbnbpobojboaa", sum := "a10a1dff3fbcbd5c12244834409bec2d9c62d049dc8308923907a39cf1159065", func := "loop.example/strideviews/laws.FnExactFillExport", spec := "fnExactFillExport", unfollowed := true, recurses := true, apart := false }
def FnExactFillExportSaid : Prop := fnExactFillExportRow.holds Try.pinned (OpenSpec.ofChange fnExactFillExportSpec)

/-- ITS FALSE NEIGHBOUR: 'it returns false'. Refute it at one input. -/
def fnExactFillExportWrong : ChangeSpec := { name := "fnExactFillExport", fn := fun _ => fun
  | [d1, d2, d3] => { results := [.lit (.bool false)], args := [d1, d2, d3] }
  | _ => none }
def FnExactFillExportWrongFalsely : Prop := fnExactFillExportRow.holds Try.pinned (OpenSpec.ofChange fnExactFillExportWrong)

/-- 'laws.FnExactKeptLabels': WHATEVER THE INPUT: true; the input reads as it did. -/
def fnExactKeptLabelsSpec : ChangeSpec := { name := "fnExactKeptLabels", fn := fun _ => fun
  | [d1, d2, d3, d4, d5] => { results := [.lit (.bool true)], args := [d1, d2, d3, d4, d5] }
  | _ => none }
def fnExactKeptLabelsRow : OpenClaim := { program := "ytfbbnbpobojboaa", sum := "a10a1dff3fbcbd5c12244834409bec2d9c62d049dc8308923907a39cf1159065", func := "loop.example/strideviews/laws.FnExactKeptLabels", spec := "fnExactKeptLabels", unfollowed := true, recurses := true, apart := false }
def FnExactKeptLabelsSaid : Prop := fnExactKeptLabelsRow.holds Try.pinned (OpenSpec.ofChange fnExactKeptLabelsSpec)

/-- ITS FALSE NEIGHBOUR: 'it returns false'. Refute it at one input. -/
def fnExactKeptLabelsWrong : ChangeSpec := { name := "fnExactKeptLabels", fn := fun _ => fun
  | [d1, d2, d3, d4, d5] => { results := [.lit (.bool false)], args := [d1, d2, d3, d4, d5] }
  | _ => none }
def FnExactKeptLabelsWrongFalsely : Prop := fnExactKeptLabelsRow.holds Try.pinned (OpenSpec.ofChange fnExactKeptLabelsWrong)

/-- 'laws.FnExactCopyExport': WHATEVER THE INPUT: true; the input reads as it did. -/
def fnExactCopyExportSpec : ChangeSpec := { name := "fnExactCopyExport", fn := fun _ => fun
  | [d1, d2, d3] => { results := [.lit (.bool true)], args := [d1, d2, d3] }
  | _ => none }
def fnExactCopyExportRow : OpenClaim := { program := "ytfbbnbpobojboaa", sum := "a10a1dff3fbcbd5c12244834409bec2d9c62d049dc8308923907a39cf1159065", func := "loop.example/strideviews/laws.FnExactCopyExport", spec := "fnExactCopyExport", unfollowed := true, recurses := true, apart := false }
def FnExactCopyExportSaid : Prop := fnExactCopyExportRow.holds Try.pinned (OpenSpec.ofChange fnExactCopyExportSpec)

/-- ITS FALSE NEIGHBOUR: 'it returns false'. Refute it at one input. -/
def fnExactCopyExportWrong : ChangeSpec := { name := "fnExactCopyExport", fn := fun _ => fun
  | [d1, d2, d3] => { results := [.lit (.bool false)], args := [d1, d2, d3] }
  | _ => none }
def FnExactCopyExportWrongFalsely : Prop := fnExactCopyExportRow.holds Try.pinned (OpenSpec.ofChange fnExactCopyExportWrong)

/-- 'laws.FnExactExportPart': WHATEVER THE INPUT: true; the input reads as it did. -/
def fnExactExportPartSpec : ChangeSpec := { name := "fnExactExportPart", fn := fun _ => fun
  | [d1, d2, d3, d4] => { results := [.lit (.bool true)], args := [d1, d2, d3, d4] }
  | _ => none }
def fnExactExportPartRow : OpenClaim := { program := "ytfbbnbpobojboaa", sum := "a10a1dff3fbcbd5c12244834409bec2d9c62d049dc8308923907a39cf1159065", func := "loop.example/strideviews/laws.FnExactExportPart", spec := "fnExactExportPart", unfollowed := true, recurses := true, apart := false }
def FnExactExportPartSaid : Prop := fnExactExportPartRow.holds Try.pinned (OpenSpec.ofChange fnExactExportPartSpec)

/-- ITS FALSE NEIGHBOUR: 'it returns false'. Refute it at one input. -/
def fnExactExportPartWrong : ChangeSpec := { name := "fnExactExportPart", fn := fun _ => fun
  | [d1, d2, d3, d4] => { results := [.lit (.bool false)], args := [d1, d2, d3, d4] }
  | _ => none }
def FnExactExportPartWrongFalsely : Prop := fnExactExportPartRow.holds Try.pinned (OpenSpec.ofChange fnExactExportPartWrong)

/-- 'laws.FnExactTilesOf': WHATEVER THE INPUT: true; the input reads as it did. -/
def fnExactTilesOfSpec : ChangeSpec := { name := "fnExactTilesOf", fn := fun _ => fun
  | [d1, d2] => { results := [.lit (.bool true)], args := [d1, d2] }
  | _ => none }
def fnExactTilesOfRow : OpenClaim := { program := "ytfbbnbpobojboaa", sum := "a10a1dff3fbcbd5c12244834409bec2d9c62d049dc8308923907a39cf1159065", func := "loop.example/strideviews/laws.FnExactTilesOf", spec := "fnExactTilesOf", unfollowed := true, recurses := true, apart := false }
def FnExactTilesOfSaid : Prop := fnExactTilesOfRow.holds Try.pinned (OpenSpec.ofChange fnExactTilesOfSpec)

/-- ITS FALSE NEIGHBOUR: 'it returns false'. Refute it at one input. -/
def fnExactTilesOfWrong : ChangeSpec := { name := "fnExactTilesOf", fn := fun _ => fun
  | [d1, d2] => { results := [.lit (.bool false)], args := [d1, d2] }
  | _ => none }
def FnExactTilesOfWrongFalsely : Prop := fnExactTilesOfRow.holds Try.pinned (OpenSpec.ofChange fnExactTilesOfWrong)

/-- 'laws.FnExactCostOf': WHATEVER THE INPUT: true; the input reads as it did. -/
def fnExactCostOfSpec : ChangeSpec := { name := "fnExactCostOf", fn := fun _ => fun
  | [d1, d2] => { results := [.lit (.bool true)], args := [d1, d2] }
  | _ => none }
def fnExactCostOfRow : OpenClaim := { program := "ytfbbnbpobojboaa", sum := "a10a1dff3fbcbd5c12244834409bec2d9c62d049dc8308923907a39cf1159065", func := "loop.example/strideviews/laws.FnExactCostOf", spec := "fnExactCostOf", unfollowed := true, recurses := true, apart := false }
def FnExactCostOfSaid : Prop := fnExactCostOfRow.holds Try.pinned (OpenSpec.ofChange fnExactCostOfSpec)

/-- ITS FALSE NEIGHBOUR: 'it returns false'. Refute it at one input. -/
def fnExactCostOfWrong : ChangeSpec := { name := "fnExactCostOf", fn := fun _ => fun
  | [d1, d2] => { results := [.lit (.bool false)], args := [d1, d2] }
  | _ => none }
def FnExactCostOfWrongFalsely : Prop := fnExactCostOfRow.holds Try.pinned (OpenSpec.ofChange fnExactCostOfWrong)

/- THE SECOND FORM. 'bulk': how many values and letters a reading holds, each counted each time it is reached (what is shared counts as often as it is met; a slice's spare places count too). A statement '..UptoSaid' is the law's where the arguments, and the package variables that the reading takes, are together of bulk at most 1048576: NARROWER than '..Said'. Prove '..Said' where nothing that the law and all that it calls make is longer than what came in: it says more and counts as full. Else prove '..UptoSaid'. A law counts once. -/
mutual
def uptoBulk {H : Type} : DataW H → Nat
  | .lit (.string bytes) => bytes.length + 1
  | .lit _ => 1
  | .nil => 1
  | .ptr d => uptoBulk d + 1
  | .slice elems spare => uptoBulkAll elems + uptoBulkAll spare + 1
  | .agg parts => uptoBulkAll parts + 1
  | .iface _ d => uptoBulk d + 1
  | .map entries => uptoBulkEntries entries + 1
  | .held _ => 1
def uptoBulkAll {H : Type} : List (DataW H) → Nat
  | [] => 0
  | d :: r => uptoBulk d + uptoBulkAll r
def uptoBulkEntries {H : Type} : List (Lit × DataW H) → Nat
  | [] => 0
  | x :: r => uptoBulkEntry x + uptoBulkEntries r
def uptoBulkEntry {H : Type} : Lit × DataW H → Nat
  | (.string bytes, d) => bytes.length + uptoBulk d + 1
  | (_, d) => uptoBulk d + 1
 end
def uptoSmall : (H : Type) → List (DataW H) → Bool := fun _ ds => decide (uptoBulkAll ds ≤ 1048576)
def OpenSpec.upto (s : _root_.Go.ChangeSpec) : _root_.Go.OpenSpec := { _root_.Go.OpenSpec.ofChange s with cond := some uptoSmall }

/-- 'laws.FnExactExportView', WHERE WHAT IT READS IS OF BULK AT MOST 1048576: true; the input reads as it did. -/
def fnExactExportViewUptoRow : OpenClaim := { program := "ytfbbnbpobojboaa", sum := "a10a1dff3fbcbd5c12244834409bec2d9c62d049dc8308923907a39cf1159065", func := "loop.example/strideviews/laws.FnExactExportView", spec := "fnExactExportView", unfollowed := true, recurses := true, apart := false, narrowed := true }
def FnExactExportViewUptoSaid : Prop := fnExactExportViewUptoRow.holds Try.pinned (OpenSpec.upto fnExactExportViewSpec)

/-- 'laws.FnExactSplitDim', WHERE WHAT IT READS IS OF BULK AT MOST 1048576: true; the input reads as it did. -/
def fnExactSplitDimUptoRow : OpenClaim := { program := "ytfbbnbpobojboaa", sum := "a10a1dff3fbcbd5c12244834409bec2d9c62d049dc8308923907a39cf1159065", func := "loop.example/strideviews/laws.FnExactSplitDim", spec := "fnExactSplitDim", inPlace := ["slices.overlaps[int]"], unfollowed := true, recurses := true, apart := false, narrowed := true }
def FnExactSplitDimUptoSaid : Prop := fnExactSplitDimUptoRow.holds Try.pinned (OpenSpec.upto fnExactSplitDimSpec)

/-- 'laws.FnExactReleaseExport', WHERE WHAT IT READS IS OF BULK AT MOST 1048576: true; the input reads as it did. -/
def fnExactReleaseExportUptoRow : OpenClaim := { program := "ytfbbnbpobojboaa", sum := "a10a1dff3fbcbd5c12244834409bec2d9c62d049dc8308923907a39cf1159065", func := "loop.example/strideviews/laws.FnExactReleaseExport", spec := "fnExactReleaseExport", unfollowed := true, recurses := true, apart := false, narrowed := true }
def FnExactReleaseExportUptoSaid : Prop := fnExactReleaseExportUptoRow.holds Try.pinned (OpenSpec.upto fnExactReleaseExportSpec)

/-- 'laws.FnExactResizeBuffer', WHERE WHAT IT READS IS OF BULK AT MOST 1048576: true; the input reads as it did. -/
def fnExactResizeBufferUptoRow : OpenClaim := { program := "ytfbbnbpobojboaa", sum := "a10a1dff3fbcbd5c12244834409bec2d9c62d049dc8308923907a39cf1159065", func := "loop.example/strideviews/laws.FnExactResizeBuffer", spec := "fnExactResizeBuffer", unfollowed := true, recurses := true, apart := false, narrowed := true }
def FnExactResizeBufferUptoSaid : Prop := fnExactResizeBufferUptoRow.holds Try.pinned (OpenSpec.upto fnExactResizeBufferSpec)

/-- 'laws.FnExactFillExport', WHERE WHAT IT READS IS OF BULK AT MOST 1048576: true; the input reads as it did. -/
def fnExactFillExportUptoRow : OpenClaim := { program := "ytfbbnbpobojboaa", sum := "a10a1dff3fbcbd5c12244834409bec2d9c62d049dc8308923907a39cf1159065", func := "loop.example/strideviews/laws.FnExactFillExport", spec := "fnExactFillExport", unfollowed := true, recurses := true, apart := false, narrowed := true }
def FnExactFillExportUptoSaid : Prop := fnExactFillExportUptoRow.holds Try.pinned (OpenSpec.upto fnExactFillExportSpec)

/-- 'laws.FnExactKeptLabels', WHERE WHAT IT READS IS OF BULK AT MOST 1048576: true; the input reads as it did. -/
def fnExactKeptLabelsUptoRow : OpenClaim := { program := "ytfbbnbpobojboaa", sum := "a10a1dff3fbcbd5c12244834409bec2d9c62d049dc8308923907a39cf1159065", func := "loop.example/strideviews/laws.FnExactKeptLabels", spec := "fnExactKeptLabels", unfollowed := true, recurses := true, apart := false, narrowed := true }
def FnExactKeptLabelsUptoSaid : Prop := fnExactKeptLabelsUptoRow.holds Try.pinned (OpenSpec.upto fnExactKeptLabelsSpec)

/-- 'laws.FnExactCopyExport', WHERE WHAT IT READS IS OF BULK AT MOST 1048576: true; the input reads as it did. -/
def fnExactCopyExportUptoRow : OpenClaim := { program := "ytfbbnbpobojboaa", sum := "a10a1dff3fbcbd5c12244834409bec2d9c62d049dc8308923907a39cf1159065", func := "loop.example/strideviews/laws.FnExactCopyExport", spec := "fnExactCopyExport", unfollowed := true, recurses := true, apart := false, narrowed := true }
def FnExactCopyExportUptoSaid : Prop := fnExactCopyExportUptoRow.holds Try.pinned (OpenSpec.upto fnExactCopyExportSpec)

/-- 'laws.FnExactExportPart', WHERE WHAT IT READS IS OF BULK AT MOST 1048576: true; the input reads as it did. -/
def fnExactExportPartUptoRow : OpenClaim := { program := "ytfbbnbpobojboaa", sum := "a10a1dff3fbcbd5c12244834409bec2d9c62d049dc8308923907a39cf1159065", func := "loop.example/strideviews/laws.FnExactExportPart", spec := "fnExactExportPart", unfollowed := true, recurses := true, apart := false, narrowed := true }
def FnExactExportPartUptoSaid : Prop := fnExactExportPartUptoRow.holds Try.pinned (OpenSpec.upto fnExactExportPartSpec)

/-- 'laws.FnExactTilesOf', WHERE WHAT IT READS IS OF BULK AT MOST 1048576: true; the input reads as it did. -/
def fnExactTilesOfUptoRow : OpenClaim := { program := "ytfbbnbpobojboaa", sum := "a10a1dff3fbcbd5c12244834409bec2d9c62d049dc8308923907a39cf1159065", func := "loop.example/strideviews/laws.FnExactTilesOf", spec := "fnExactTilesOf", unfollowed := true, recurses := true, apart := false, narrowed := true }
def FnExactTilesOfUptoSaid : Prop := fnExactTilesOfUptoRow.holds Try.pinned (OpenSpec.upto fnExactTilesOfSpec)

/-- 'laws.FnExactCostOf', WHERE WHAT IT READS IS OF BULK AT MOST 1048576: true; the input reads as it did. -/
def fnExactCostOfUptoRow : OpenClaim := { program := "ytfbbnbpobojboaa", sum := "a10a1dff3fbcbd5c12244834409bec2d9c62d049dc8308923907a39cf1159065", func := "loop.example/strideviews/laws.FnExactCostOf", spec := "fnExactCostOf", unfollowed := true, recurses := true, apart := false, narrowed := true }
def FnExactCostOfUptoSaid : Prop := fnExactCostOfUptoRow.holds Try.pinned (OpenSpec.upto fnExactCostOfSpec)

end Rows
end Go.Proofs.Ytfbbnbpobojboaa
