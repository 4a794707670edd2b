/-
  No cell of these rows narrows 'for every input' (looked for: loops, veiled, ifaces, maps, wideKeys, modest, calm, conditions, laid).
  DERIVED. THE GIVEN ROWS OF THIS SEAT. 12 by the template 'for every input the law returns true; each argument reads behind the call as it read before'; 0 by the template 'total and deterministic' (their statements: YtonnnjaooifpjaaTotals.lean).
  GIVEN WITH THE SEED: the statements are not yours to turn. If you find one false, say at which input.
  Laid BY PROGRAM, IN A SANDBOX (cutbox-rows.mjs): the forced cells as the released guide's own fill.sh prints them over the translation 96fbd11040c47a02… (all of the seat's roots in one cut). By AI agents, Wed Nov 11 2026. No macro, syntax, notation, axiom, sorry.
-/
import Derived.Test.YtonnnjaooifpjaaChecked
import GoSem.Claim
import GoSem.ClaimJoined
import GoSem.ClaimMapViews
import Derived.JoinedTies
import Derived.KernelRfl
namespace Go.Proofs.Ytonnnjaooifpjaa
/- THE CELL 'sum', in the pinned program and in every row, IS THE sha256 OF THE DUMP (.gsa) THAT YtonnnjaooifpjaaProg.lean LOADS. Nothing in Lean hashes anything: it is a label: what it is worth is what the hold of that sum in a sandbox is worth. -/
noncomputable def Try.pinned : Pinned := { name := "ytonnnjaooifpjaa", sum := "96fbd11040c47a02418d8f3dcb609d52a77104cf2aaea5a94d179bd95e0fcaf2", checked := Try.checked }
namespace Rows
def none {H : Type} : Left H := { results := [], args := [] }

/-- 'laws.FnIsCol': WHATEVER THE INPUT: true; the input reads as it did. -/
def fnIsColSpec : ChangeSpec := { name := "fnIsCol", fn := fun _ => fun
  | [d] => { results := [.lit (.bool true)], args := [d] }
  | _ => none }
def fnIsColRow : OpenClaim := { program := "ytonnnjaooifpjaa", sum := "96fbd11040c47a02418d8f3dcb609d52a77104cf2aaea5a94d179bd95e0fcaf2", func := "loop.example/strideviews/laws.FnIsCol", spec := "fnIsCol", unfollowed := true, recurses := true, apart := false }
def FnIsColSaid : Prop := fnIsColRow.holds Try.pinned (OpenSpec.ofChange fnIsColSpec)

/-- ITS FALSE NEIGHBOUR: 'it returns false'. Refute it at one input. -/
def fnIsColWrong : ChangeSpec := { name := "fnIsCol", fn := fun _ => fun
  | [d] => { results := [.lit (.bool false)], args := [d] }
  | _ => none }
def FnIsColWrongFalsely : Prop := fnIsColRow.holds Try.pinned (OpenSpec.ofChange fnIsColWrong)

/-- 'laws.FnTensorOf': WHATEVER THE INPUT: true; the input reads as it did. -/
def fnTensorOfSpec : ChangeSpec := { name := "fnTensorOf", fn := fun _ => fun
  | [d] => { results := [.lit (.bool true)], args := [d] }
  | _ => none }
def fnTensorOfRow : OpenClaim := { program := "ytonnnjaooifpjaa", sum := "96fbd11040c47a02418d8f3dcb609d52a77104cf2aaea5a94d179bd95e0fcaf2", func := "loop.example/strideviews/laws.FnTensorOf", spec := "fnTensorOf", unfollowed := true, recurses := true, apart := false }
def FnTensorOfSaid : Prop := fnTensorOfRow.holds Try.pinned (OpenSpec.ofChange fnTensorOfSpec)

/-- ITS FALSE NEIGHBOUR: 'it returns false'. Refute it at one input. -/
def fnTensorOfWrong : ChangeSpec := { name := "fnTensorOf", fn := fun _ => fun
  | [d] => { results := [.lit (.bool false)], args := [d] }
  | _ => none }
def FnTensorOfWrongFalsely : Prop := fnTensorOfRow.holds Try.pinned (OpenSpec.ofChange fnTensorOfWrong)

/-- 'laws.FnJoinDims': WHATEVER THE INPUT: true; the input reads as it did. -/
def fnJoinDimsSpec : ChangeSpec := { name := "fnJoinDims", fn := fun _ => fun
  | [d] => { results := [.lit (.bool true)], args := [d] }
  | _ => none }
def fnJoinDimsRow : OpenClaim := { program := "ytonnnjaooifpjaa", sum := "96fbd11040c47a02418d8f3dcb609d52a77104cf2aaea5a94d179bd95e0fcaf2", func := "loop.example/strideviews/laws.FnJoinDims", spec := "fnJoinDims", unfollowed := true, recurses := true, apart := false }
def FnJoinDimsSaid : Prop := fnJoinDimsRow.holds Try.pinned (OpenSpec.ofChange fnJoinDimsSpec)

/-- ITS FALSE NEIGHBOUR: 'it returns false'. Refute it at one input. -/
def fnJoinDimsWrong : ChangeSpec := { name := "fnJoinDims", fn := fun _ => fun
  | [d] => { results := [.lit (.bool false)], args := [d] }
  | _ => none }
def FnJoinDimsWrongFalsely : Prop := fnJoinDimsRow.holds Try.pinned (OpenSpec.ofChange fnJoinDimsWrong)

/-- 'laws.FnAddDim': WHATEVER THE INPUT: true; the input reads as it did. -/
def fnAddDimSpec : ChangeSpec := { name := "fnAddDim", fn := fun _ => fun
  | [d] => { results := [.lit (.bool true)], args := [d] }
  | _ => none }
def fnAddDimRow : OpenClaim := { program := "ytonnnjaooifpjaa", sum := "96fbd11040c47a02418d8f3dcb609d52a77104cf2aaea5a94d179bd95e0fcaf2", func := "loop.example/strideviews/laws.FnAddDim", spec := "fnAddDim", inPlace := ["slices.overlaps[int]"], unfollowed := true, recurses := true, apart := false }
def FnAddDimSaid : Prop := fnAddDimRow.holds Try.pinned (OpenSpec.ofChange fnAddDimSpec)

/-- ITS FALSE NEIGHBOUR: 'it returns false'. Refute it at one input. -/
def fnAddDimWrong : ChangeSpec := { name := "fnAddDim", fn := fun _ => fun
  | [d] => { results := [.lit (.bool false)], args := [d] }
  | _ => none }
def FnAddDimWrongFalsely : Prop := fnAddDimRow.holds Try.pinned (OpenSpec.ofChange fnAddDimWrong)

/-- 'laws.FnPickDim': WHATEVER THE INPUT: true; the input reads as it did. -/
def fnPickDimSpec : ChangeSpec := { name := "fnPickDim", fn := fun _ => fun
  | [d] => { results := [.lit (.bool true)], args := [d] }
  | _ => none }
def fnPickDimRow : OpenClaim := { program := "ytonnnjaooifpjaa", sum := "96fbd11040c47a02418d8f3dcb609d52a77104cf2aaea5a94d179bd95e0fcaf2", func := "loop.example/strideviews/laws.FnPickDim", spec := "fnPickDim", unfollowed := true, recurses := true, apart := false }
def FnPickDimSaid : Prop := fnPickDimRow.holds Try.pinned (OpenSpec.ofChange fnPickDimSpec)

/-- ITS FALSE NEIGHBOUR: 'it returns false'. Refute it at one input. -/
def fnPickDimWrong : ChangeSpec := { name := "fnPickDim", fn := fun _ => fun
  | [d] => { results := [.lit (.bool false)], args := [d] }
  | _ => none }
def FnPickDimWrongFalsely : Prop := fnPickDimRow.holds Try.pinned (OpenSpec.ofChange fnPickDimWrong)

/-- 'laws.FnWindowsOf': WHATEVER THE INPUT: true; the input reads as it did. -/
def fnWindowsOfSpec : ChangeSpec := { name := "fnWindowsOf", fn := fun _ => fun
  | [d] => { results := [.lit (.bool true)], args := [d] }
  | _ => none }
def fnWindowsOfRow : OpenClaim := { program := "ytonnnjaooifpjaa", sum := "96fbd11040c47a02418d8f3dcb609d52a77104cf2aaea5a94d179bd95e0fcaf2", func := "loop.example/strideviews/laws.FnWindowsOf", spec := "fnWindowsOf", unfollowed := true, recurses := true, apart := false }
def FnWindowsOfSaid : Prop := fnWindowsOfRow.holds Try.pinned (OpenSpec.ofChange fnWindowsOfSpec)

/-- ITS FALSE NEIGHBOUR: 'it returns false'. Refute it at one input. -/
def fnWindowsOfWrong : ChangeSpec := { name := "fnWindowsOf", fn := fun _ => fun
  | [d] => { results := [.lit (.bool false)], args := [d] }
  | _ => none }
def FnWindowsOfWrongFalsely : Prop := fnWindowsOfRow.holds Try.pinned (OpenSpec.ofChange fnWindowsOfWrong)

/-- 'laws.FnSliceDimTwice': WHATEVER THE INPUT: true; the input reads as it did. -/
def fnSliceDimTwiceSpec : ChangeSpec := { name := "fnSliceDimTwice", fn := fun _ => fun
  | [d] => { results := [.lit (.bool true)], args := [d] }
  | _ => none }
def fnSliceDimTwiceRow : OpenClaim := { program := "ytonnnjaooifpjaa", sum := "96fbd11040c47a02418d8f3dcb609d52a77104cf2aaea5a94d179bd95e0fcaf2", func := "loop.example/strideviews/laws.FnSliceDimTwice", spec := "fnSliceDimTwice", unfollowed := true, recurses := true, apart := false }
def FnSliceDimTwiceSaid : Prop := fnSliceDimTwiceRow.holds Try.pinned (OpenSpec.ofChange fnSliceDimTwiceSpec)

/-- ITS FALSE NEIGHBOUR: 'it returns false'. Refute it at one input. -/
def fnSliceDimTwiceWrong : ChangeSpec := { name := "fnSliceDimTwice", fn := fun _ => fun
  | [d] => { results := [.lit (.bool false)], args := [d] }
  | _ => none }
def FnSliceDimTwiceWrongFalsely : Prop := fnSliceDimTwiceRow.holds Try.pinned (OpenSpec.ofChange fnSliceDimTwiceWrong)

/-- 'laws.FnSplitDim': WHATEVER THE INPUT: true; the input reads as it did. -/
def fnSplitDimSpec : ChangeSpec := { name := "fnSplitDim", fn := fun _ => fun
  | [d] => { results := [.lit (.bool true)], args := [d] }
  | _ => none }
def fnSplitDimRow : OpenClaim := { program := "ytonnnjaooifpjaa", sum := "96fbd11040c47a02418d8f3dcb609d52a77104cf2aaea5a94d179bd95e0fcaf2", func := "loop.example/strideviews/laws.FnSplitDim", spec := "fnSplitDim", inPlace := ["slices.overlaps[int]"], unfollowed := true, recurses := true, apart := false }
def FnSplitDimSaid : Prop := fnSplitDimRow.holds Try.pinned (OpenSpec.ofChange fnSplitDimSpec)

/-- ITS FALSE NEIGHBOUR: 'it returns false'. Refute it at one input. -/
def fnSplitDimWrong : ChangeSpec := { name := "fnSplitDim", fn := fun _ => fun
  | [d] => { results := [.lit (.bool false)], args := [d] }
  | _ => none }
def FnSplitDimWrongFalsely : Prop := fnSplitDimRow.holds Try.pinned (OpenSpec.ofChange fnSplitDimWrong)

/-- 'laws.FnReshape': WHATEVER THE INPUT: true; the input reads as it did. -/
def fnReshapeSpec : ChangeSpec := { name := "fnReshape", fn := fun _ => fun
  | [d] => { results := [.lit (.bool true)], args := [d] }
  | _ => none }
def fnReshapeRow : OpenClaim := { program := "ytonnnjaooifpjaa", sum := "96fbd11040c47a02418d8f3dcb609d52a77104cf2aaea5a94d179bd95e0fcaf2", func := "loop.example/strideviews/laws.FnReshape", spec := "fnReshape", unfollowed := true, recurses := true, apart := false }
def FnReshapeSaid : Prop := fnReshapeRow.holds Try.pinned (OpenSpec.ofChange fnReshapeSpec)

/-- ITS FALSE NEIGHBOUR: 'it returns false'. Refute it at one input. -/
def fnReshapeWrong : ChangeSpec := { name := "fnReshape", fn := fun _ => fun
  | [d] => { results := [.lit (.bool false)], args := [d] }
  | _ => none }
def FnReshapeWrongFalsely : Prop := fnReshapeRow.holds Try.pinned (OpenSpec.ofChange fnReshapeWrong)

/-- 'laws.FnReshapeRow': WHATEVER THE INPUT: true; the input reads as it did. -/
def fnReshapeRowSpec : ChangeSpec := { name := "fnReshapeRow", fn := fun _ => fun
  | [d] => { results := [.lit (.bool true)], args := [d] }
  | _ => none }
def fnReshapeRowRow : OpenClaim := { program := "ytonnnjaooifpjaa", sum := "96fbd11040c47a02418d8f3dcb609d52a77104cf2aaea5a94d179bd95e0fcaf2", func := "loop.example/strideviews/laws.FnReshapeRow", spec := "fnReshapeRow", unfollowed := true, recurses := true, apart := false }
def FnReshapeRowSaid : Prop := fnReshapeRowRow.holds Try.pinned (OpenSpec.ofChange fnReshapeRowSpec)

/-- ITS FALSE NEIGHBOUR: 'it returns false'. Refute it at one input. -/
def fnReshapeRowWrong : ChangeSpec := { name := "fnReshapeRow", fn := fun _ => fun
  | [d] => { results := [.lit (.bool false)], args := [d] }
  | _ => none }
def FnReshapeRowWrongFalsely : Prop := fnReshapeRowRow.holds Try.pinned (OpenSpec.ofChange fnReshapeRowWrong)

/-- 'laws.FnPermuteDims': WHATEVER THE INPUT: true; the input reads as it did. -/
def fnPermuteDimsSpec : ChangeSpec := { name := "fnPermuteDims", fn := fun _ => fun
  | [d] => { results := [.lit (.bool true)], args := [d] }
  | _ => none }
def fnPermuteDimsRow : OpenClaim := { program := "ytonnnjaooifpjaa", sum := "96fbd11040c47a02418d8f3dcb609d52a77104cf2aaea5a94d179bd95e0fcaf2", func := "loop.example/strideviews/laws.FnPermuteDims", spec := "fnPermuteDims", unfollowed := true, recurses := true, apart := false }
def FnPermuteDimsSaid : Prop := fnPermuteDimsRow.holds Try.pinned (OpenSpec.ofChange fnPermuteDimsSpec)

/-- ITS FALSE NEIGHBOUR: 'it returns false'. Refute it at one input. -/
def fnPermuteDimsWrong : ChangeSpec := { name := "fnPermuteDims", fn := fun _ => fun
  | [d] => { results := [.lit (.bool false)], args := [d] }
  | _ => none }
def FnPermuteDimsWrongFalsely : Prop := fnPermuteDimsRow.holds Try.pinned (OpenSpec.ofChange fnPermuteDimsWrong)

/-- 'laws.FnDiagonalOf': WHATEVER THE INPUT: true; the input reads as it did. -/
def fnDiagonalOfSpec : ChangeSpec := { name := "fnDiagonalOf", fn := fun _ => fun
  | [d] => { results := [.lit (.bool true)], args := [d] }
  | _ => none }
def fnDiagonalOfRow : OpenClaim := { program := "ytonnnjaooifpjaa", sum := "96fbd11040c47a02418d8f3dcb609d52a77104cf2aaea5a94d179bd95e0fcaf2", func := "loop.example/strideviews/laws.FnDiagonalOf", spec := "fnDiagonalOf", unfollowed := true, recurses := true, apart := false }
def FnDiagonalOfSaid : Prop := fnDiagonalOfRow.holds Try.pinned (OpenSpec.ofChange fnDiagonalOfSpec)

/-- ITS FALSE NEIGHBOUR: 'it returns false'. Refute it at one input. -/
def fnDiagonalOfWrong : ChangeSpec := { name := "fnDiagonalOf", fn := fun _ => fun
  | [d] => { results := [.lit (.bool false)], args := [d] }
  | _ => none }
def FnDiagonalOfWrongFalsely : Prop := fnDiagonalOfRow.holds Try.pinned (OpenSpec.ofChange fnDiagonalOfWrong)

/- THE SECOND FORM. 'bulk': how many values and letters a reading holds, each counted each time it is reached (what is shared counts as often as it is met; a slice's spare places count too). A statement '..UptoSaid' is the law's where the arguments, and the package variables that the reading takes, are together of bulk at most 1048576: NARROWER than '..Said'. Prove '..Said' where nothing that the law and all that it calls make is longer than what came in: it says more and counts as full. Else prove '..UptoSaid'. A law counts once. -/
mutual
def uptoBulk {H : Type} : DataW H → Nat
  | .lit (.string bytes) => bytes.length + 1
  | .lit _ => 1
  | .nil => 1
  | .ptr d => uptoBulk d + 1
  | .slice elems spare => uptoBulkAll elems + uptoBulkAll spare + 1
  | .agg parts => uptoBulkAll parts + 1
  | .iface _ d => uptoBulk d + 1
  | .map entries => uptoBulkEntries entries + 1
  | .held _ => 1
def uptoBulkAll {H : Type} : List (DataW H) → Nat
  | [] => 0
  | d :: r => uptoBulk d + uptoBulkAll r
def uptoBulkEntries {H : Type} : List (Lit × DataW H) → Nat
  | [] => 0
  | x :: r => uptoBulkEntry x + uptoBulkEntries r
def uptoBulkEntry {H : Type} : Lit × DataW H → Nat
  | (.string bytes, d) => bytes.length + uptoBulk d + 1
  | (_, d) => uptoBulk d + 1
 end
def uptoSmall : (H : Type) → List (DataW H) → Bool := fun _ ds => decide (uptoBulkAll ds ≤ 1048576)
def OpenSpec.upto (s : _root_.Go.ChangeSpec) : _root_.Go.OpenSpec := { _root_.Go.OpenSpec.ofChange s with cond := some uptoSmall }

/-- 'laws.FnIsCol', WHERE WHAT IT READS IS OF BULK AT MOST 1048576: true; the input reads as it did. -/
def fnIsColUptoRow : OpenClaim := { program := "ytonnnjaooifpjaa", sum := "96fbd11040c47a02418d8f3dcb609d52a77104cf2aaea5a94d179bd95e0fcaf2", func := "loop.example/strideviews/laws.FnIsCol", spec := "fnIsCol", unfollowed := true, recurses := true, apart := false, narrowed := true }
def FnIsColUptoSaid : Prop := fnIsColUptoRow.holds Try.pinned (OpenSpec.upto fnIsColSpec)

/-- 'laws.FnTensorOf', WHERE WHAT IT READS IS OF BULK AT MOST 1048576: true; the input reads as it did. -/
def fnTensorOfUptoRow : OpenClaim := { program := "ytonnnjaooifpjaa", sum := "96fbd11040c47a02418d8f3dcb609d52a77104cf2aaea5a94d179bd95e0fcaf2", func := "loop.example/strideviews/laws.FnTensorOf", spec := "fnTensorOf", unfollowed := true, recurses := true, apart := false, narrowed := true }
def FnTensorOfUptoSaid : Prop := fnTensorOfUptoRow.holds Try.pinned (OpenSpec.upto fnTensorOfSpec)

/-- 'laws.FnJoinDims', WHERE WHAT IT READS IS OF BULK AT MOST 1048576: true; the input reads as it did. -/
def fnJoinDimsUptoRow : OpenClaim := { program := "ytonnnjaooifpjaa", sum := "96fbd11040c47a02418d8f3dcb609d52a77104cf2aaea5a94d179bd95e0fcaf2", func := "loop.example/strideviews/laws.FnJoinDims", spec := "fnJoinDims", unfollowed := true, recurses := true, apart := false, narrowed := true }
def FnJoinDimsUptoSaid : Prop := fnJoinDimsUptoRow.holds Try.pinned (OpenSpec.upto fnJoinDimsSpec)

/-- 'laws.FnAddDim', WHERE WHAT IT READS IS OF BULK AT MOST 1048576: true; the input reads as it did. -/
def fnAddDimUptoRow : OpenClaim := { program := "ytonnnjaooifpjaa", sum := "96fbd11040c47a02418d8f3dcb609d52a77104cf2aaea5a94d179bd95e0fcaf2", func := "loop.example/strideviews/laws.FnAddDim", spec := "fnAddDim", inPlace := ["slices.overlaps[int]"], unfollowed := true, recurses := true, apart := false, narrowed := true }
def FnAddDimUptoSaid : Prop := fnAddDimUptoRow.holds Try.pinned (OpenSpec.upto fnAddDimSpec)

/-- 'laws.FnPickDim', WHERE WHAT IT READS IS OF BULK AT MOST 1048576: true; the input reads as it did. -/
def fnPickDimUptoRow : OpenClaim := { program := "ytonnnjaooifpjaa", sum := "96fbd11040c47a02418d8f3dcb609d52a77104cf2aaea5a94d179bd95e0fcaf2", func := "loop.example/strideviews/laws.FnPickDim", spec := "fnPickDim", unfollowed := true, recurses := true, apart := false, narrowed := true }
def FnPickDimUptoSaid : Prop := fnPickDimUptoRow.holds Try.pinned (OpenSpec.upto fnPickDimSpec)

/-- 'laws.FnWindowsOf', WHERE WHAT IT READS IS OF BULK AT MOST 1048576: true; the input reads as it did. -/
def fnWindowsOfUptoRow : OpenClaim := { program := "ytonnnjaooifpjaa", sum := "96fbd11040c47a02418d8f3dcb609d52a77104cf2aaea5a94d179bd95e0fcaf2", func := "loop.example/strideviews/laws.FnWindowsOf", spec := "fnWindowsOf", unfollowed := true, recurses := true, apart := false, narrowed := true }
def FnWindowsOfUptoSaid : Prop := fnWindowsOfUptoRow.holds Try.pinned (OpenSpec.upto fnWindowsOfSpec)

/-- 'laws.FnSliceDimTwice', WHERE WHAT IT READS IS OF BULK AT MOST 1048576: true; the input reads as it did. -/
def fnSliceDimTwiceUptoRow : OpenClaim := { program := "ytonnnjaooifpjaa", sum := "96fbd11040c47a02418d8f3dcb609d52a77104cf2aaea5a94d179bd95e0fcaf2", func := "loop.example/strideviews/laws.FnSliceDimTwice", spec := "fnSliceDimTwice", unfollowed := true, recurses := true, apart := false, narrowed := true }
def FnSliceDimTwiceUptoSaid : Prop := fnSliceDimTwiceUptoRow.holds Try.pinned (OpenSpec.upto fnSliceDimTwiceSpec)

/-- 'laws.FnSplitDim', WHERE WHAT IT READS IS OF BULK AT MOST 1048576: true; the input reads as it did. -/
def fnSplitDimUptoRow : OpenClaim := { program := "ytonnnjaooifpjaa", sum := "96fbd11040c47a02418d8f3dcb609d52a77104cf2aaea5a94d179bd95e0fcaf2", func := "loop.example/strideviews/laws.FnSplitDim", spec := "fnSplitDim", inPlace := ["slices.overlaps[int]"], unfollowed := true, recurses := true, apart := false, narrowed := true }
def FnSplitDimUptoSaid : Prop := fnSplitDimUptoRow.holds Try.pinned (OpenSpec.upto fnSplitDimSpec)

/-- 'laws.FnReshape', WHERE WHAT IT READS IS OF BULK AT MOST 1048576: true; the input reads as it did. -/
def fnReshapeUptoRow : OpenClaim := { program := "ytonnnjaooifpjaa", sum := "96fbd11040c47a02418d8f3dcb609d52a77104cf2aaea5a94d179bd95e0fcaf2", func := "loop.example/strideviews/laws.FnReshape", spec := "fnReshape", unfollowed := true, recurses := true, apart := false, narrowed := true }
def FnReshapeUptoSaid : Prop := fnReshapeUptoRow.holds Try.pinned (OpenSpec.upto fnReshapeSpec)

/-- 'laws.FnReshapeRow', WHERE WHAT IT READS IS OF BULK AT MOST 1048576: true; the input reads as it did. -/
def fnReshapeRowUptoRow : OpenClaim := { program := "ytonnnjaooifpjaa", sum := "96fbd11040c47a02418d8f3dcb609d52a77104cf2aaea5a94d179bd95e0fcaf2", func := "loop.example/strideviews/laws.FnReshapeRow", spec := "fnReshapeRow", unfollowed := true, recurses := true, apart := false, narrowed := true }
def FnReshapeRowUptoSaid : Prop := fnReshapeRowUptoRow.holds Try.pinned (OpenSpec.upto fnReshapeRowSpec)

/-- 'laws.FnPermuteDims', WHERE WHAT IT READS IS OF BULK AT MOST 1048576: true; the input reads as it did. -/
def fnPermuteDimsUptoRow : OpenClaim := { program := "ytonnnjaooifpjaa", sum := "96fbd11040c47a02418d8f3dcb609d52a77104cf2aaea5a94d179bd95e0fcaf2", func := "loop.example/strideviews/laws.FnPermuteDims", spec := "fnPermuteDims", unfollowed := true, recurses := true, apart := false, narrowed := true }
def FnPermuteDimsUptoSaid : Prop := fnPermuteDimsUptoRow.holds Try.pinned (OpenSpec.upto fnPermuteDimsSpec)

/-- 'laws.FnDiagonalOf', WHERE WHAT IT READS IS OF BULK AT MOST 1048576: true; the input reads as it did. -/
def fnDiagonalOfUptoRow : OpenClaim := { program := "ytonnnjaooifpjaa", sum := "96fbd11040c47a02418d8f3dcb609d52a77104cf2aaea5a94d179bd95e0fcaf2", func := "loop.example/strideviews/laws.FnDiagonalOf", spec := "fnDiagonalOf", unfollowed := true, recurses := true, apart := false, narrowed := true }
def FnDiagonalOfUptoSaid : Prop := fnDiagonalOfUptoRow.holds Try.pinned (OpenSpec.upto fnDiagonalOfSpec)

end Rows
end Go.Proofs.Ytonnnjaooifpjaa
