/-
  No cell of these rows narrows 'for every input' (looked for: loops, veiled, ifaces, maps, wideKeys, modest, calm, conditions, laid).
  DERIVED. THE GIVEN ROWS OF THIS SEAT. 10 by the template 'for every input the law returns true; each argument reads behind the call as it read before'; 0 by the template 'total and deterministic' (their statements: YtnjaidgifccgjaaTotals.lean).
  GIVEN WITH THE SEED: the statements are not yours to turn. If you find one false, say at which input.
  Laid BY PROGRAM, IN A SANDBOX (cutbox-rows.mjs): the forced cells as the released guide's own fill.sh prints them over the translation 7c7757e6afeffa33… (all of the seat's roots in one cut). By AI agents, Wed Nov 11 2026. No macro, syntax, notation, axiom, sorry.
-/
import Derived.Test.YtnjaidgifccgjaaChecked
import GoSem.Claim
import GoSem.ClaimJoined
import GoSem.ClaimMapViews
import Derived.JoinedTies
import Derived.KernelRfl
namespace Go.Proofs.Ytnjaidgifccgjaa
/- THE CELL 'sum', in the pinned program and in every row, IS THE sha256 OF THE DUMP (.gsa) THAT YtnjaidgifccgjaaProg.lean LOADS. Nothing in Lean hashes anything: it is a label: what it is worth is what the hold of that sum in a sandbox is worth. -/
noncomputable def Try.pinned : Pinned := { name := "ytnjaidgifccgjaa", sum := "7c7757e6afeffa33b9075f5c068ac9fc2ec3eb620821b0cbf0a0cff8b7ac99da", checked := Try.checked }
namespace Rows
def none {H : Type} : Left H := { results := [], args := [] }

/-- 'laws.FnFitsIn': WHATEVER THE INPUT: true; the input reads as it did. -/
def fnFitsInSpec : ChangeSpec := { name := "fnFitsIn", fn := fun _ => fun
  | [d] => { results := [.lit (.bool true)], args := [d] }
  | _ => none }
def fnFitsInRow : OpenClaim := { program := "ytnjaidgifccgjaa", sum := "7c7757e6afeffa33b9075f5c068ac9fc2ec3eb620821b0cbf0a0cff8b7ac99da", func := "loop.example/strideviews/laws.FnFitsIn", spec := "fnFitsIn", unfollowed := true, recurses := true, apart := false }
def FnFitsInSaid : Prop := fnFitsInRow.holds Try.pinned (OpenSpec.ofChange fnFitsInSpec)

/-- ITS FALSE NEIGHBOUR: 'it returns false'. Refute it at one input. -/
def fnFitsInWrong : ChangeSpec := { name := "fnFitsIn", fn := fun _ => fun
  | [d] => { results := [.lit (.bool false)], args := [d] }
  | _ => none }
def FnFitsInWrongFalsely : Prop := fnFitsInRow.holds Try.pinned (OpenSpec.ofChange fnFitsInWrong)

/-- 'laws.FnOffsetsOf': WHATEVER THE INPUT: true; the input reads as it did. -/
def fnOffsetsOfSpec : ChangeSpec := { name := "fnOffsetsOf", fn := fun _ => fun
  | [d] => { results := [.lit (.bool true)], args := [d] }
  | _ => none }
def fnOffsetsOfRow : OpenClaim := { program := "ytnjaidgifccgjaa", sum := "7c7757e6afeffa33b9075f5c068ac9fc2ec3eb620821b0cbf0a0cff8b7ac99da", func := "loop.example/strideviews/laws.FnOffsetsOf", spec := "fnOffsetsOf", unfollowed := true, recurses := true, apart := false }
def FnOffsetsOfSaid : Prop := fnOffsetsOfRow.holds Try.pinned (OpenSpec.ofChange fnOffsetsOfSpec)

/-- ITS FALSE NEIGHBOUR: 'it returns false'. Refute it at one input. -/
def fnOffsetsOfWrong : ChangeSpec := { name := "fnOffsetsOf", fn := fun _ => fun
  | [d] => { results := [.lit (.bool false)], args := [d] }
  | _ => none }
def FnOffsetsOfWrongFalsely : Prop := fnOffsetsOfRow.holds Try.pinned (OpenSpec.ofChange fnOffsetsOfWrong)

/-- 'laws.FnIsRow': WHATEVER THE INPUT: true; the input reads as it did. -/
def fnIsRowSpec : ChangeSpec := { name := "fnIsRow", fn := fun _ => fun
  | [d] => { results := [.lit (.bool true)], args := [d] }
  | _ => none }
def fnIsRowRow : OpenClaim := { program := "ytnjaidgifccgjaa", sum := "7c7757e6afeffa33b9075f5c068ac9fc2ec3eb620821b0cbf0a0cff8b7ac99da", func := "loop.example/strideviews/laws.FnIsRow", spec := "fnIsRow", unfollowed := true, recurses := true, apart := false }
def FnIsRowSaid : Prop := fnIsRowRow.holds Try.pinned (OpenSpec.ofChange fnIsRowSpec)

/-- ITS FALSE NEIGHBOUR: 'it returns false'. Refute it at one input. -/
def fnIsRowWrong : ChangeSpec := { name := "fnIsRow", fn := fun _ => fun
  | [d] => { results := [.lit (.bool false)], args := [d] }
  | _ => none }
def FnIsRowWrongFalsely : Prop := fnIsRowRow.holds Try.pinned (OpenSpec.ofChange fnIsRowWrong)

/-- 'laws.FnBoundsOf': WHATEVER THE INPUT: true; the input reads as it did. -/
def fnBoundsOfSpec : ChangeSpec := { name := "fnBoundsOf", fn := fun _ => fun
  | [d] => { results := [.lit (.bool true)], args := [d] }
  | _ => none }
def fnBoundsOfRow : OpenClaim := { program := "ytnjaidgifccgjaa", sum := "7c7757e6afeffa33b9075f5c068ac9fc2ec3eb620821b0cbf0a0cff8b7ac99da", func := "loop.example/strideviews/laws.FnBoundsOf", spec := "fnBoundsOf", unfollowed := true, recurses := true, apart := false }
def FnBoundsOfSaid : Prop := fnBoundsOfRow.holds Try.pinned (OpenSpec.ofChange fnBoundsOfSpec)

/-- ITS FALSE NEIGHBOUR: 'it returns false'. Refute it at one input. -/
def fnBoundsOfWrong : ChangeSpec := { name := "fnBoundsOf", fn := fun _ => fun
  | [d] => { results := [.lit (.bool false)], args := [d] }
  | _ => none }
def FnBoundsOfWrongFalsely : Prop := fnBoundsOfRow.holds Try.pinned (OpenSpec.ofChange fnBoundsOfWrong)

/-- 'laws.FnOffsetAt': WHATEVER THE INPUT: true; the input reads as it did. -/
def fnOffsetAtSpec : ChangeSpec := { name := "fnOffsetAt", fn := fun _ => fun
  | [d] => { results := [.lit (.bool true)], args := [d] }
  | _ => none }
def fnOffsetAtRow : OpenClaim := { program := "ytnjaidgifccgjaa", sum := "7c7757e6afeffa33b9075f5c068ac9fc2ec3eb620821b0cbf0a0cff8b7ac99da", func := "loop.example/strideviews/laws.FnOffsetAt", spec := "fnOffsetAt", unfollowed := true, recurses := true, apart := false }
def FnOffsetAtSaid : Prop := fnOffsetAtRow.holds Try.pinned (OpenSpec.ofChange fnOffsetAtSpec)

/-- ITS FALSE NEIGHBOUR: 'it returns false'. Refute it at one input. -/
def fnOffsetAtWrong : ChangeSpec := { name := "fnOffsetAt", fn := fun _ => fun
  | [d] => { results := [.lit (.bool false)], args := [d] }
  | _ => none }
def FnOffsetAtWrongFalsely : Prop := fnOffsetAtRow.holds Try.pinned (OpenSpec.ofChange fnOffsetAtWrong)

/-- 'laws.FnLoadView': WHATEVER THE INPUT: true; the input reads as it did. -/
def fnLoadViewSpec : ChangeSpec := { name := "fnLoadView", fn := fun _ => fun
  | [d] => { results := [.lit (.bool true)], args := [d] }
  | _ => none }
def fnLoadViewRow : OpenClaim := { program := "ytnjaidgifccgjaa", sum := "7c7757e6afeffa33b9075f5c068ac9fc2ec3eb620821b0cbf0a0cff8b7ac99da", func := "loop.example/strideviews/laws.FnLoadView", spec := "fnLoadView", unfollowed := true, recurses := true, apart := false }
def FnLoadViewSaid : Prop := fnLoadViewRow.holds Try.pinned (OpenSpec.ofChange fnLoadViewSpec)

/-- ITS FALSE NEIGHBOUR: 'it returns false'. Refute it at one input. -/
def fnLoadViewWrong : ChangeSpec := { name := "fnLoadView", fn := fun _ => fun
  | [d] => { results := [.lit (.bool false)], args := [d] }
  | _ => none }
def FnLoadViewWrongFalsely : Prop := fnLoadViewRow.holds Try.pinned (OpenSpec.ofChange fnLoadViewWrong)

/-- 'laws.FnStoreViewLast': WHATEVER THE INPUT: true; the input reads as it did. -/
def fnStoreViewLastSpec : ChangeSpec := { name := "fnStoreViewLast", fn := fun _ => fun
  | [d] => { results := [.lit (.bool true)], args := [d] }
  | _ => none }
def fnStoreViewLastRow : OpenClaim := { program := "ytnjaidgifccgjaa", sum := "7c7757e6afeffa33b9075f5c068ac9fc2ec3eb620821b0cbf0a0cff8b7ac99da", func := "loop.example/strideviews/laws.FnStoreViewLast", spec := "fnStoreViewLast", unfollowed := true, recurses := true, apart := false }
def FnStoreViewLastSaid : Prop := fnStoreViewLastRow.holds Try.pinned (OpenSpec.ofChange fnStoreViewLastSpec)

/-- ITS FALSE NEIGHBOUR: 'it returns false'. Refute it at one input. -/
def fnStoreViewLastWrong : ChangeSpec := { name := "fnStoreViewLast", fn := fun _ => fun
  | [d] => { results := [.lit (.bool false)], args := [d] }
  | _ => none }
def FnStoreViewLastWrongFalsely : Prop := fnStoreViewLastRow.holds Try.pinned (OpenSpec.ofChange fnStoreViewLastWrong)

/-- 'laws.FnAddView': WHATEVER THE INPUT: true; the input reads as it did. -/
def fnAddViewSpec : ChangeSpec := { name := "fnAddView", fn := fun _ => fun
  | [d] => { results := [.lit (.bool true)], args := [d] }
  | _ => none }
def fnAddViewRow : OpenClaim := { program := "ytnjaidgifccgjaa", sum := "7c7757e6afeffa33b9075f5c068ac9fc2ec3eb620821b0cbf0a0cff8b7ac99da", func := "loop.example/strideviews/laws.FnAddView", spec := "fnAddView", unfollowed := true, recurses := true, apart := false }
def FnAddViewSaid : Prop := fnAddViewRow.holds Try.pinned (OpenSpec.ofChange fnAddViewSpec)

/-- ITS FALSE NEIGHBOUR: 'it returns false'. Refute it at one input. -/
def fnAddViewWrong : ChangeSpec := { name := "fnAddView", fn := fun _ => fun
  | [d] => { results := [.lit (.bool false)], args := [d] }
  | _ => none }
def FnAddViewWrongFalsely : Prop := fnAddViewRow.holds Try.pinned (OpenSpec.ofChange fnAddViewWrong)

/-- 'laws.FnDropOnes': WHATEVER THE INPUT: true; the input reads as it did. -/
def fnDropOnesSpec : ChangeSpec := { name := "fnDropOnes", fn := fun _ => fun
  | [d] => { results := [.lit (.bool true)], args := [d] }
  | _ => none }
def fnDropOnesRow : OpenClaim := { program := "ytnjaidgifccgjaa", sum := "7c7757e6afeffa33b9075f5c068ac9fc2ec3eb620821b0cbf0a0cff8b7ac99da", func := "loop.example/strideviews/laws.FnDropOnes", spec := "fnDropOnes", unfollowed := true, recurses := true, apart := false }
def FnDropOnesSaid : Prop := fnDropOnesRow.holds Try.pinned (OpenSpec.ofChange fnDropOnesSpec)

/-- ITS FALSE NEIGHBOUR: 'it returns false'. Refute it at one input. -/
def fnDropOnesWrong : ChangeSpec := { name := "fnDropOnes", fn := fun _ => fun
  | [d] => { results := [.lit (.bool false)], args := [d] }
  | _ => none }
def FnDropOnesWrongFalsely : Prop := fnDropOnesRow.holds Try.pinned (OpenSpec.ofChange fnDropOnesWrong)

/-- 'laws.FnSumView': WHATEVER THE INPUT: true; the input reads as it did. -/
def fnSumViewSpec : ChangeSpec := { name := "fnSumView", fn := fun _ => fun
  | [d] => { results := [.lit (.bool true)], args := [d] }
  | _ => none }
def fnSumViewRow : OpenClaim := { program := "ytnjaidgifccgjaa", sum := "7c7757e6afeffa33b9075f5c068ac9fc2ec3eb620821b0cbf0a0cff8b7ac99da", func := "loop.example/strideviews/laws.FnSumView", spec := "fnSumView", unfollowed := true, recurses := true, apart := false }
def FnSumViewSaid : Prop := fnSumViewRow.holds Try.pinned (OpenSpec.ofChange fnSumViewSpec)

/-- ITS FALSE NEIGHBOUR: 'it returns false'. Refute it at one input. -/
def fnSumViewWrong : ChangeSpec := { name := "fnSumView", fn := fun _ => fun
  | [d] => { results := [.lit (.bool false)], args := [d] }
  | _ => none }
def FnSumViewWrongFalsely : Prop := fnSumViewRow.holds Try.pinned (OpenSpec.ofChange fnSumViewWrong)

/- THE SECOND FORM. 'bulk': how many values and letters a reading holds, each counted each time it is reached (what is shared counts as often as it is met; a slice's spare places count too). A statement '..UptoSaid' is the law's where the arguments, and the package variables that the reading takes, are together of bulk at most 1048576: NARROWER than '..Said'. Prove '..Said' where nothing that the law and all that it calls make is longer than what came in: it says more and counts as full. Else prove '..UptoSaid'. A law counts once. -/
mutual
def uptoBulk {H : Type} : DataW H → Nat
  | .lit (.string bytes) => bytes.length + 1
  | .lit _ => 1
  | .nil => 1
  | .ptr d => uptoBulk d + 1
  | .slice elems spare => uptoBulkAll elems + uptoBulkAll spare + 1
  | .agg parts => uptoBulkAll parts + 1
  | .iface _ d => uptoBulk d + 1
  | .map entries => uptoBulkEntries entries + 1
  | .held _ => 1
def uptoBulkAll {H : Type} : List (DataW H) → Nat
  | [] => 0
  | d :: r => uptoBulk d + uptoBulkAll r
def uptoBulkEntries {H : Type} : List (Lit × DataW H) → Nat
  | [] => 0
  | x :: r => uptoBulkEntry x + uptoBulkEntries r
def uptoBulkEntry {H : Type} : Lit × DataW H → Nat
  | (.string bytes, d) => bytes.length + uptoBulk d + 1
  | (_, d) => uptoBulk d + 1
 end
def uptoSmall : (H : Type) → List (DataW H) → Bool := fun _ ds => decide (uptoBulkAll ds ≤ 1048576)
def OpenSpec.upto (s : _root_.Go.ChangeSpec) : _root_.Go.OpenSpec := { _root_.Go.OpenSpec.ofChange s with cond := some uptoSmall }

/-- 'laws.FnFitsIn', WHERE WHAT IT READS IS OF BULK AT MOST 1048576: true; the input reads as it did. -/
def fnFitsInUptoRow : OpenClaim := { program := "ytnjaidgifccgjaa", sum := "7c7757e6afeffa33b9075f5c068ac9fc2ec3eb620821b0cbf0a0cff8b7ac99da", func := "loop.example/strideviews/laws.FnFitsIn", spec := "fnFitsIn", unfollowed := true, recurses := true, apart := false, narrowed := true }
def FnFitsInUptoSaid : Prop := fnFitsInUptoRow.holds Try.pinned (OpenSpec.upto fnFitsInSpec)

/-- 'laws.FnOffsetsOf', WHERE WHAT IT READS IS OF BULK AT MOST 1048576: true; the input reads as it did. -/
def fnOffsetsOfUptoRow : OpenClaim := { program := "ytnjaidgifccgjaa", sum := "7c7757e6afeffa33b9075f5c068ac9fc2ec3eb620821b0cbf0a0cff8b7ac99da", func := "loop.example/strideviews/laws.FnOffsetsOf", spec := "fnOffsetsOf", unfollowed := true, recurses := true, apart := false, narrowed := true }
def FnOffsetsOfUptoSaid : Prop := fnOffsetsOfUptoRow.holds Try.pinned (OpenSpec.upto fnOffsetsOfSpec)

/-- 'laws.FnIsRow', WHERE WHAT IT READS IS OF BULK AT MOST 1048576: true; the input reads as it did. -/
def fnIsRowUptoRow : OpenClaim := { program := "ytnjaidgifccgjaa", sum := "7c7757e6afeffa33b9075f5c068ac9fc2ec3eb620821b0cbf0a0cff8b7ac99da", func := "loop.example/strideviews/laws.FnIsRow", spec := "fnIsRow", unfollowed := true, recurses := true, apart := false, narrowed := true }
def FnIsRowUptoSaid : Prop := fnIsRowUptoRow.holds Try.pinned (OpenSpec.upto fnIsRowSpec)

/-- 'laws.FnBoundsOf', WHERE WHAT IT READS IS OF BULK AT MOST 1048576: true; the input reads as it did. -/
def fnBoundsOfUptoRow : OpenClaim := { program := "ytnjaidgifccgjaa", sum := "7c7757e6afeffa33b9075f5c068ac9fc2ec3eb620821b0cbf0a0cff8b7ac99da", func := "loop.example/strideviews/laws.FnBoundsOf", spec := "fnBoundsOf", unfollowed := true, recurses := true, apart := false, narrowed := true }
def FnBoundsOfUptoSaid : Prop := fnBoundsOfUptoRow.holds Try.pinned (OpenSpec.upto fnBoundsOfSpec)

/-- 'laws.FnOffsetAt', WHERE WHAT IT READS IS OF BULK AT MOST 1048576: true; the input reads as it did. -/
def fnOffsetAtUptoRow : OpenClaim := { program := "ytnjaidgifccgjaa", sum := "7c7757e6afeffa33b9075f5c068ac9fc2ec3eb620821b0cbf0a0cff8b7ac99da", func := "loop.example/strideviews/laws.FnOffsetAt", spec := "fnOffsetAt", unfollowed := true, recurses := true, apart := false, narrowed := true }
def FnOffsetAtUptoSaid : Prop := fnOffsetAtUptoRow.holds Try.pinned (OpenSpec.upto fnOffsetAtSpec)

/-- 'laws.FnLoadView', WHERE WHAT IT READS IS OF BULK AT MOST 1048576: true; the input reads as it did. -/
def fnLoadViewUptoRow : OpenClaim := { program := "ytnjaidgifccgjaa", sum := "7c7757e6afeffa33b9075f5c068ac9fc2ec3eb620821b0cbf0a0cff8b7ac99da", func := "loop.example/strideviews/laws.FnLoadView", spec := "fnLoadView", unfollowed := true, recurses := true, apart := false, narrowed := true }
def FnLoadViewUptoSaid : Prop := fnLoadViewUptoRow.holds Try.pinned (OpenSpec.upto fnLoadViewSpec)

/-- 'laws.FnStoreViewLast', WHERE WHAT IT READS IS OF BULK AT MOST 1048576: true; the input reads as it did. -/
def fnStoreViewLastUptoRow : OpenClaim := { program := "ytnjaidgifccgjaa", sum := "7c7757e6afeffa33b9075f5c068ac9fc2ec3eb620821b0cbf0a0cff8b7ac99da", func := "loop.example/strideviews/laws.FnStoreViewLast", spec := "fnStoreViewLast", unfollowed := true, recurses := true, apart := false, narrowed := true }
def FnStoreViewLastUptoSaid : Prop := fnStoreViewLastUptoRow.holds Try.pinned (OpenSpec.upto fnStoreViewLastSpec)

/-- 'laws.FnAddView', WHERE WHAT IT READS IS OF BULK AT MOST 1048576: true; the input reads as it did. -/
def fnAddViewUptoRow : OpenClaim := { program := "ytnjaidgifccgjaa", sum := "7c7757e6afeffa33b9075f5c068ac9fc2ec3eb620821b0cbf0a0cff8b7ac99da", func := "loop.example/strideviews/laws.FnAddView", spec := "fnAddView", unfollowed := true, recurses := true, apart := false, narrowed := true }
def FnAddViewUptoSaid : Prop := fnAddViewUptoRow.holds Try.pinned (OpenSpec.upto fnAddViewSpec)

/-- 'laws.FnDropOnes', WHERE WHAT IT READS IS OF BULK AT MOST 1048576: true; the input reads as it did. -/
def fnDropOnesUptoRow : OpenClaim := { program := "ytnjaidgifccgjaa", sum := "7c7757e6afeffa33b9075f5c068ac9fc2ec3eb620821b0cbf0a0cff8b7ac99da", func := "loop.example/strideviews/laws.FnDropOnes", spec := "fnDropOnes", unfollowed := true, recurses := true, apart := false, narrowed := true }
def FnDropOnesUptoSaid : Prop := fnDropOnesUptoRow.holds Try.pinned (OpenSpec.upto fnDropOnesSpec)

/-- 'laws.FnSumView', WHERE WHAT IT READS IS OF BULK AT MOST 1048576: true; the input reads as it did. -/
def fnSumViewUptoRow : OpenClaim := { program := "ytnjaidgifccgjaa", sum := "7c7757e6afeffa33b9075f5c068ac9fc2ec3eb620821b0cbf0a0cff8b7ac99da", func := "loop.example/strideviews/laws.FnSumView", spec := "fnSumView", unfollowed := true, recurses := true, apart := false, narrowed := true }
def FnSumViewUptoSaid : Prop := fnSumViewUptoRow.holds Try.pinned (OpenSpec.upto fnSumViewSpec)

end Rows
end Go.Proofs.Ytnjaidgifccgjaa
