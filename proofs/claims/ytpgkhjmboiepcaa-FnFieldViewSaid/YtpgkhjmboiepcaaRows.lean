/-
  No cell of these rows narrows 'for every input' (looked for: loops, veiled, ifaces, maps, wideKeys, modest, calm, conditions, laid).
  DERIVED. THE GIVEN ROWS OF THIS SEAT. 5 by the template 'for every input the law returns true; each argument reads behind the call as it read before'; 0 by the template 'total and deterministic' (their statements: YtpgkhjmboiepcaaTotals.lean).
  GIVEN WITH THE SEED: the statements are not yours to turn. If you find one false, say at which input.
  Laid BY PROGRAM, IN A SANDBOX (cutbox-rows.mjs): the forced cells as the released guide's own fill.sh prints them over the translation 6550468880066b8a… (all of the seat's roots in one cut). By AI agents, Wed Nov 11 2026. No macro, syntax, notation, axiom, sorry.
-/
import Derived.Test.YtpgkhjmboiepcaaChecked
import GoSem.Claim
import GoSem.ClaimJoined
import GoSem.ClaimMapViews
import Derived.JoinedTies
import Derived.KernelRfl
namespace Go.Proofs.Ytpgkhjmboiepcaa
/- THE CELL 'sum', in the pinned program and in every row, IS THE sha256 OF THE DUMP (.gsa) THAT YtpgkhjmboiepcaaProg.lean LOADS. Nothing in Lean hashes anything: it is a label: what it is worth is what the hold of that sum in a sandbox is worth. -/
noncomputable def Try.pinned : Pinned := { name := "ytpgkhjmboiepcaa", sum := "6550468880066b8a9a21e88c71eace8de6aeaccc5e440623a0ec57d97b69aa7f", checked := Try.checked }
namespace Rows
def none {H : Type} : Left H := { results := [], args := [] }

/-- 'laws.FnTensorOf': WHATEVER THE INPUT: true; the input reads as it did. -/
def fnTensorOfSpec : ChangeSpec := { name := "fnTensorOf", fn := fun _ => fun
  | [d] => { results := [.lit (.bool true)], args := [d] }
  | _ => none }
def fnTensorOfRow : OpenClaim := { program := "ytpgkhjmboiepcaa", sum := "6550468880066b8a9a21e88c71eace8de6aeaccc5e440623a0ec57d97b69aa7f", func := "loop.example/strideviews/laws.FnTensorOf", spec := "fnTensorOf", unfollowed := true, recurses := true, apart := false }
def FnTensorOfSaid : Prop := fnTensorOfRow.holds Try.pinned (OpenSpec.ofChange fnTensorOfSpec)

/-- ITS FALSE NEIGHBOUR: 'it returns false'. Refute it at one input. -/
def fnTensorOfWrong : ChangeSpec := { name := "fnTensorOf", fn := fun _ => fun
  | [d] => { results := [.lit (.bool false)], args := [d] }
  | _ => none }
def FnTensorOfWrongFalsely : Prop := fnTensorOfRow.holds Try.pinned (OpenSpec.ofChange fnTensorOfWrong)

/-- 'laws.FnFieldView': WHATEVER THE INPUT: true; the input reads as it did. -/
def fnFieldViewSpec : ChangeSpec := { name := "fnFieldView", fn := fun _ => fun
  | [d] => { results := [.lit (.bool true)], args := [d] }
  | _ => none }
def fnFieldViewRow : OpenClaim := { program := "ytpgkhjmboiepcaa", sum := "6550468880066b8a9a21e88c71eace8de6aeaccc5e440623a0ec57d97b69aa7f", func := "loop.example/strideviews/laws.FnFieldView", spec := "fnFieldView", unfollowed := true, recurses := true, apart := false }
def FnFieldViewSaid : Prop := fnFieldViewRow.holds Try.pinned (OpenSpec.ofChange fnFieldViewSpec)

/-- ITS FALSE NEIGHBOUR: 'it returns false'. Refute it at one input. -/
def fnFieldViewWrong : ChangeSpec := { name := "fnFieldView", fn := fun _ => fun
  | [d] => { results := [.lit (.bool false)], args := [d] }
  | _ => none }
def FnFieldViewWrongFalsely : Prop := fnFieldViewRow.holds Try.pinned (OpenSpec.ofChange fnFieldViewWrong)

/-- 'laws.FnCostOf': WHATEVER THE INPUT: true; the input reads as it did. -/
def fnCostOfSpec : ChangeSpec := { name := "fnCostOf", fn := fun _ => fun
  | [d] => { results := [.lit (.bool true)], args := [d] }
  | _ => none }
def fnCostOfRow : OpenClaim := { program := "ytpgkhjmboiepcaa", sum := "6550468880066b8a9a21e88c71eace8de6aeaccc5e440623a0ec57d97b69aa7f", func := "loop.example/strideviews/laws.FnCostOf", spec := "fnCostOf", unfollowed := true, recurses := true, apart := false }
def FnCostOfSaid : Prop := fnCostOfRow.holds Try.pinned (OpenSpec.ofChange fnCostOfSpec)

/-- ITS FALSE NEIGHBOUR: 'it returns false'. Refute it at one input. -/
def fnCostOfWrong : ChangeSpec := { name := "fnCostOf", fn := fun _ => fun
  | [d] => { results := [.lit (.bool false)], args := [d] }
  | _ => none }
def FnCostOfWrongFalsely : Prop := fnCostOfRow.holds Try.pinned (OpenSpec.ofChange fnCostOfWrong)

/-- 'laws.FnKeptLabels': WHATEVER THE INPUT: true; the input reads as it did. -/
def fnKeptLabelsSpec : ChangeSpec := { name := "fnKeptLabels", fn := fun _ => fun
  | [d] => { results := [.lit (.bool true)], args := [d] }
  | _ => none }
def fnKeptLabelsRow : OpenClaim := { program := "ytpgkhjmboiepcaa", sum := "6550468880066b8a9a21e88c71eace8de6aeaccc5e440623a0ec57d97b69aa7f", func := "loop.example/strideviews/laws.FnKeptLabels", spec := "fnKeptLabels", unfollowed := true, recurses := true, apart := false }
def FnKeptLabelsSaid : Prop := fnKeptLabelsRow.holds Try.pinned (OpenSpec.ofChange fnKeptLabelsSpec)

/-- ITS FALSE NEIGHBOUR: 'it returns false'. Refute it at one input. -/
def fnKeptLabelsWrong : ChangeSpec := { name := "fnKeptLabels", fn := fun _ => fun
  | [d] => { results := [.lit (.bool false)], args := [d] }
  | _ => none }
def FnKeptLabelsWrongFalsely : Prop := fnKeptLabelsRow.holds Try.pinned (OpenSpec.ofChange fnKeptLabelsWrong)

/-- 'laws.FnCostBy': WHATEVER THE INPUT: true; the input reads as it did. -/
def fnCostBySpec : ChangeSpec := { name := "fnCostBy", fn := fun _ => fun
  | [d] => { results := [.lit (.bool true)], args := [d] }
  | _ => none }
def fnCostByRow : OpenClaim := { program := "ytpgkhjmboiepcaa", sum := "6550468880066b8a9a21e88c71eace8de6aeaccc5e440623a0ec57d97b69aa7f", func := "loop.example/strideviews/laws.FnCostBy", spec := "fnCostBy", unfollowed := true, recurses := true, apart := false }
def FnCostBySaid : Prop := fnCostByRow.holds Try.pinned (OpenSpec.ofChange fnCostBySpec)

/-- ITS FALSE NEIGHBOUR: 'it returns false'. Refute it at one input. -/
def fnCostByWrong : ChangeSpec := { name := "fnCostBy", fn := fun _ => fun
  | [d] => { results := [.lit (.bool false)], args := [d] }
  | _ => none }
def FnCostByWrongFalsely : Prop := fnCostByRow.holds Try.pinned (OpenSpec.ofChange fnCostByWrong)

/- THE SECOND FORM. 'bulk': how many values and letters a reading holds, each counted each time it is reached (what is shared counts as often as it is met; a slice's spare places count too). A statement '..UptoSaid' is the law's where the arguments, and the package variables that the reading takes, are together of bulk at most 1048576: NARROWER than '..Said'. Prove '..Said' where nothing that the law and all that it calls make is longer than what came in: it says more and counts as full. Else prove '..UptoSaid'. A law counts once. -/
mutual
def uptoBulk {H : Type} : DataW H → Nat
  | .lit (.string bytes) => bytes.length + 1
  | .lit _ => 1
  | .nil => 1
  | .ptr d => uptoBulk d + 1
  | .slice elems spare => uptoBulkAll elems + uptoBulkAll spare + 1
  | .agg parts => uptoBulkAll parts + 1
  | .iface _ d => uptoBulk d + 1
  | .map entries => uptoBulkEntries entries + 1
  | .held _ => 1
def uptoBulkAll {H : Type} : List (DataW H) → Nat
  | [] => 0
  | d :: r => uptoBulk d + uptoBulkAll r
def uptoBulkEntries {H : Type} : List (Lit × DataW H) → Nat
  | [] => 0
  | x :: r => uptoBulkEntry x + uptoBulkEntries r
def uptoBulkEntry {H : Type} : Lit × DataW H → Nat
  | (.string bytes, d) => bytes.length + uptoBulk d + 1
  | (_, d) => uptoBulk d + 1
 end
def uptoSmall : (H : Type) → List (DataW H) → Bool := fun _ ds => decide (uptoBulkAll ds ≤ 1048576)
def OpenSpec.upto (s : _root_.Go.ChangeSpec) : _root_.Go.OpenSpec := { _root_.Go.OpenSpec.ofChange s with cond := some uptoSmall }

/-- 'laws.FnTensorOf', WHERE WHAT IT READS IS OF BULK AT MOST 1048576: true; the input reads as it did. -/
def fnTensorOfUptoRow : OpenClaim := { program := "ytpgkhjmboiepcaa", sum := "6550468880066b8a9a21e88c71eace8de6aeaccc5e440623a0ec57d97b69aa7f", func := "loop.example/strideviews/laws.FnTensorOf", spec := "fnTensorOf", unfollowed := true, recurses := true, apart := false, narrowed := true }
def FnTensorOfUptoSaid : Prop := fnTensorOfUptoRow.holds Try.pinned (OpenSpec.upto fnTensorOfSpec)

/-- 'laws.FnFieldView', WHERE WHAT IT READS IS OF BULK AT MOST 1048576: true; the input reads as it did. -/
def fnFieldViewUptoRow : OpenClaim := { program := "ytpgkhjmboiepcaa", sum := "6550468880066b8a9a21e88c71eace8de6aeaccc5e440623a0ec57d97b69aa7f", func := "loop.example/strideviews/laws.FnFieldView", spec := "fnFieldView", unfollowed := true, recurses := true, apart := false, narrowed := true }
def FnFieldViewUptoSaid : Prop := fnFieldViewUptoRow.holds Try.pinned (OpenSpec.upto fnFieldViewSpec)

/-- 'laws.FnCostOf', WHERE WHAT IT READS IS OF BULK AT MOST 1048576: true; the input reads as it did. -/
def fnCostOfUptoRow : OpenClaim := { program := "ytpgkhjmboiepcaa", sum := "6550468880066b8a9a21e88c71eace8de6aeaccc5e440623a0ec57d97b69aa7f", func := "loop.example/strideviews/laws.FnCostOf", spec := "fnCostOf", unfollowed := true, recurses := true, apart := false, narrowed := true }
def FnCostOfUptoSaid : Prop := fnCostOfUptoRow.holds Try.pinned (OpenSpec.upto fnCostOfSpec)

/-- 'laws.FnKeptLabels', WHERE WHAT IT READS IS OF BULK AT MOST 1048576: true; the input reads as it did. -/
def fnKeptLabelsUptoRow : OpenClaim := { program := "ytpgkhjmboiepcaa", sum := "6550468880066b8a9a21e88c71eace8de6aeaccc5e440623a0ec57d97b69aa7f", func := "loop.example/strideviews/laws.FnKeptLabels", spec := "fnKeptLabels", unfollowed := true, recurses := true, apart := false, narrowed := true }
def FnKeptLabelsUptoSaid : Prop := fnKeptLabelsUptoRow.holds Try.pinned (OpenSpec.upto fnKeptLabelsSpec)

/-- 'laws.FnCostBy', WHERE WHAT IT READS IS OF BULK AT MOST 1048576: true; the input reads as it did. -/
def fnCostByUptoRow : OpenClaim := { program := "ytpgkhjmboiepcaa", sum := "6550468880066b8a9a21e88c71eace8de6aeaccc5e440623a0ec57d97b69aa7f", func := "loop.example/strideviews/laws.FnCostBy", spec := "fnCostBy", unfollowed := true, recurses := true, apart := false, narrowed := true }
def FnCostByUptoSaid : Prop := fnCostByUptoRow.holds Try.pinned (OpenSpec.upto fnCostBySpec)

end Rows
end Go.Proofs.Ytpgkhjmboiepcaa
