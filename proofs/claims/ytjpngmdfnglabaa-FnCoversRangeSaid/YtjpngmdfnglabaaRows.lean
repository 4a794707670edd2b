/-
  No cell of these rows narrows 'for every input' (looked for: loops, veiled, ifaces, maps, wideKeys, modest, calm, conditions, laid).
  DERIVED. THE GIVEN ROWS OF THIS SEAT. 7 by the template 'for every input the law returns true; each argument reads behind the call as it read before'; 0 by the template 'total and deterministic' (their statements: YtjpngmdfnglabaaTotals.lean).
  GIVEN WITH THE SEED: the statements are not yours to turn. If you find one false, say at which input.
  Laid BY PROGRAM, IN A SANDBOX (cutbox-rows.mjs): the forced cells as the released guide's own fill.sh prints them over the translation a3b4268c3c62816d… (all of the seat's roots in one cut). By AI agents, Wed Nov 11 2026. No macro, syntax, notation, axiom, sorry.
-/
import Derived.Test.YtjpngmdfnglabaaChecked
import GoSem.Claim
import GoSem.ClaimJoined
import GoSem.ClaimMapViews
import Derived.JoinedTies
import Derived.KernelRfl
namespace Go.Proofs.Ytjpngmdfnglabaa
/- THE CELL 'sum', in the pinned program and in every row, IS THE sha256 OF THE DUMP (.gsa) THAT YtjpngmdfnglabaaProg.lean LOADS. Nothing in Lean hashes anything: it is a label: what it is worth is what the hold of that sum in a sandbox is worth. -/
noncomputable def Try.pinned : Pinned := { name := "ytjpngmdfnglabaa", sum := "a3b4268c3c62816d987f43db5a685acd3cb50138ec8330e3b7c5524e82c04f1a", checked := Try.checked }
namespace Rows
def none {H : Type} : Left H := { results := [], args := [] }

/-- 'laws.FnMeetRanges': WHATEVER THE INPUT: true; the input reads as it did. -/
def fnMeetRangesSpec : ChangeSpec := { name := "fnMeetRanges", fn := fun _ => fun
  | [d] => { results := [.lit (.bool true)], args := [d] }
  | _ => none }
def fnMeetRangesRow : OpenClaim := { program := "ytjpngmdfnglabaa", sum := "a3b4268c3c62816d987f43db5a685acd3cb50138ec8330e3b7c5524e82c04f1a", func := "loop.example/strideviews/laws.FnMeetRanges", spec := "fnMeetRanges", unfollowed := true, recurses := true, apart := false }
def FnMeetRangesSaid : Prop := fnMeetRangesRow.holds Try.pinned (OpenSpec.ofChange fnMeetRangesSpec)

/-- ITS FALSE NEIGHBOUR: 'it returns false'. Refute it at one input. -/
def fnMeetRangesWrong : ChangeSpec := { name := "fnMeetRanges", fn := fun _ => fun
  | [d] => { results := [.lit (.bool false)], args := [d] }
  | _ => none }
def FnMeetRangesWrongFalsely : Prop := fnMeetRangesRow.holds Try.pinned (OpenSpec.ofChange fnMeetRangesWrong)

/-- 'laws.FnMeetRangesStep': WHATEVER THE INPUT: true; the input reads as it did. -/
def fnMeetRangesStepSpec : ChangeSpec := { name := "fnMeetRangesStep", fn := fun _ => fun
  | [d] => { results := [.lit (.bool true)], args := [d] }
  | _ => none }
def fnMeetRangesStepRow : OpenClaim := { program := "ytjpngmdfnglabaa", sum := "a3b4268c3c62816d987f43db5a685acd3cb50138ec8330e3b7c5524e82c04f1a", func := "loop.example/strideviews/laws.FnMeetRangesStep", spec := "fnMeetRangesStep", recurses := true, apart := false }
def FnMeetRangesStepSaid : Prop := fnMeetRangesStepRow.holds Try.pinned (OpenSpec.ofChange fnMeetRangesStepSpec)

/-- ITS FALSE NEIGHBOUR: 'it returns false'. Refute it at one input. -/
def fnMeetRangesStepWrong : ChangeSpec := { name := "fnMeetRangesStep", fn := fun _ => fun
  | [d] => { results := [.lit (.bool false)], args := [d] }
  | _ => none }
def FnMeetRangesStepWrongFalsely : Prop := fnMeetRangesStepRow.holds Try.pinned (OpenSpec.ofChange fnMeetRangesStepWrong)

/-- 'laws.FnCoversRange': WHATEVER THE INPUT: true; the input reads as it did. -/
def fnCoversRangeSpec : ChangeSpec := { name := "fnCoversRange", fn := fun _ => fun
  | [d] => { results := [.lit (.bool true)], args := [d] }
  | _ => none }
def fnCoversRangeRow : OpenClaim := { program := "ytjpngmdfnglabaa", sum := "a3b4268c3c62816d987f43db5a685acd3cb50138ec8330e3b7c5524e82c04f1a", func := "loop.example/strideviews/laws.FnCoversRange", spec := "fnCoversRange", unfollowed := true, recurses := true, apart := false }
def FnCoversRangeSaid : Prop := fnCoversRangeRow.holds Try.pinned (OpenSpec.ofChange fnCoversRangeSpec)

/-- ITS FALSE NEIGHBOUR: 'it returns false'. Refute it at one input. -/
def fnCoversRangeWrong : ChangeSpec := { name := "fnCoversRange", fn := fun _ => fun
  | [d] => { results := [.lit (.bool false)], args := [d] }
  | _ => none }
def FnCoversRangeWrongFalsely : Prop := fnCoversRangeRow.holds Try.pinned (OpenSpec.ofChange fnCoversRangeWrong)

/-- 'laws.FnFitsIn': WHATEVER THE INPUT: true; the input reads as it did. -/
def fnFitsInSpec : ChangeSpec := { name := "fnFitsIn", fn := fun _ => fun
  | [d] => { results := [.lit (.bool true)], args := [d] }
  | _ => none }
def fnFitsInRow : OpenClaim := { program := "ytjpngmdfnglabaa", sum := "a3b4268c3c62816d987f43db5a685acd3cb50138ec8330e3b7c5524e82c04f1a", func := "loop.example/strideviews/laws.FnFitsIn", spec := "fnFitsIn", unfollowed := true, recurses := true, apart := false }
def FnFitsInSaid : Prop := fnFitsInRow.holds Try.pinned (OpenSpec.ofChange fnFitsInSpec)

/-- ITS FALSE NEIGHBOUR: 'it returns false'. Refute it at one input. -/
def fnFitsInWrong : ChangeSpec := { name := "fnFitsIn", fn := fun _ => fun
  | [d] => { results := [.lit (.bool false)], args := [d] }
  | _ => none }
def FnFitsInWrongFalsely : Prop := fnFitsInRow.holds Try.pinned (OpenSpec.ofChange fnFitsInWrong)

/-- 'laws.FnAddView': WHATEVER THE INPUT: true; the input reads as it did. -/
def fnAddViewSpec : ChangeSpec := { name := "fnAddView", fn := fun _ => fun
  | [d] => { results := [.lit (.bool true)], args := [d] }
  | _ => none }
def fnAddViewRow : OpenClaim := { program := "ytjpngmdfnglabaa", sum := "a3b4268c3c62816d987f43db5a685acd3cb50138ec8330e3b7c5524e82c04f1a", func := "loop.example/strideviews/laws.FnAddView", spec := "fnAddView", unfollowed := true, recurses := true, apart := false }
def FnAddViewSaid : Prop := fnAddViewRow.holds Try.pinned (OpenSpec.ofChange fnAddViewSpec)

/-- ITS FALSE NEIGHBOUR: 'it returns false'. Refute it at one input. -/
def fnAddViewWrong : ChangeSpec := { name := "fnAddView", fn := fun _ => fun
  | [d] => { results := [.lit (.bool false)], args := [d] }
  | _ => none }
def FnAddViewWrongFalsely : Prop := fnAddViewRow.holds Try.pinned (OpenSpec.ofChange fnAddViewWrong)

/-- 'laws.FnWindowsOf': WHATEVER THE INPUT: true; the input reads as it did. -/
def fnWindowsOfSpec : ChangeSpec := { name := "fnWindowsOf", fn := fun _ => fun
  | [d] => { results := [.lit (.bool true)], args := [d] }
  | _ => none }
def fnWindowsOfRow : OpenClaim := { program := "ytjpngmdfnglabaa", sum := "a3b4268c3c62816d987f43db5a685acd3cb50138ec8330e3b7c5524e82c04f1a", func := "loop.example/strideviews/laws.FnWindowsOf", spec := "fnWindowsOf", unfollowed := true, recurses := true, apart := false }
def FnWindowsOfSaid : Prop := fnWindowsOfRow.holds Try.pinned (OpenSpec.ofChange fnWindowsOfSpec)

/-- ITS FALSE NEIGHBOUR: 'it returns false'. Refute it at one input. -/
def fnWindowsOfWrong : ChangeSpec := { name := "fnWindowsOf", fn := fun _ => fun
  | [d] => { results := [.lit (.bool false)], args := [d] }
  | _ => none }
def FnWindowsOfWrongFalsely : Prop := fnWindowsOfRow.holds Try.pinned (OpenSpec.ofChange fnWindowsOfWrong)

/-- 'laws.FnSplitDim': WHATEVER THE INPUT: true; the input reads as it did. -/
def fnSplitDimSpec : ChangeSpec := { name := "fnSplitDim", fn := fun _ => fun
  | [d] => { results := [.lit (.bool true)], args := [d] }
  | _ => none }
def fnSplitDimRow : OpenClaim := { program := "ytjpngmdfnglabaa", sum := "a3b4268c3c62816d987f43db5a685acd3cb50138ec8330e3b7c5524e82c04f1a", func := "loop.example/strideviews/laws.FnSplitDim", spec := "fnSplitDim", inPlace := ["slices.overlaps[int]"], unfollowed := true, recurses := true, apart := false }
def FnSplitDimSaid : Prop := fnSplitDimRow.holds Try.pinned (OpenSpec.ofChange fnSplitDimSpec)

/-- ITS FALSE NEIGHBOUR: 'it returns false'. Refute it at one input. -/
def fnSplitDimWrong : ChangeSpec := { name := "fnSplitDim", fn := fun _ => fun
  | [d] => { results := [.lit (.bool false)], args := [d] }
  | _ => none }
def FnSplitDimWrongFalsely : Prop := fnSplitDimRow.holds Try.pinned (OpenSpec.ofChange fnSplitDimWrong)

/- THE SECOND FORM. 'bulk': how many values and letters a reading holds, each counted each time it is reached (what is shared counts as often as it is met; a slice's spare places count too). A statement '..UptoSaid' is the law's where the arguments, and the package variables that the reading takes, are together of bulk at most 1048576: NARROWER than '..Said'. Prove '..Said' where nothing that the law and all that it calls make is longer than what came in: it says more and counts as full. Else prove '..UptoSaid'. A law counts once. -/
mutual
def uptoBulk {H : Type} : DataW H → Nat
  | .lit (.string bytes) => bytes.length + 1
  | .lit _ => 1
  | .nil => 1
  | .ptr d => uptoBulk d + 1
  | .slice elems spare => uptoBulkAll elems + uptoBulkAll spare + 1
  | .agg parts => uptoBulkAll parts + 1
  | .iface _ d => uptoBulk d + 1
  | .map entries => uptoBulkEntries entries + 1
  | .held _ => 1
def uptoBulkAll {H : Type} : List (DataW H) → Nat
  | [] => 0
  | d :: r => uptoBulk d + uptoBulkAll r
def uptoBulkEntries {H : Type} : List (Lit × DataW H) → Nat
  | [] => 0
  | x :: r => uptoBulkEntry x + uptoBulkEntries r
def uptoBulkEntry {H : Type} : Lit × DataW H → Nat
  | (.string bytes, d) => bytes.length + uptoBulk d + 1
  | (_, d) => uptoBulk d + 1
 end
def uptoSmall : (H : Type) → List (DataW H) → Bool := fun _ ds => decide (uptoBulkAll ds ≤ 1048576)
def OpenSpec.upto (s : _root_.Go.ChangeSpec) : _root_.Go.OpenSpec := { _root_.Go.OpenSpec.ofChange s with cond := some uptoSmall }

/-- 'laws.FnMeetRanges', WHERE WHAT IT READS IS OF BULK AT MOST 1048576: true; the input reads as it did. -/
def fnMeetRangesUptoRow : OpenClaim := { program := "ytjpngmdfnglabaa", sum := "a3b4268c3c62816d987f43db5a685acd3cb50138ec8330e3b7c5524e82c04f1a", func := "loop.example/strideviews/laws.FnMeetRanges", spec := "fnMeetRanges", unfollowed := true, recurses := true, apart := false, narrowed := true }
def FnMeetRangesUptoSaid : Prop := fnMeetRangesUptoRow.holds Try.pinned (OpenSpec.upto fnMeetRangesSpec)

/-- 'laws.FnMeetRangesStep', WHERE WHAT IT READS IS OF BULK AT MOST 1048576: true; the input reads as it did. -/
def fnMeetRangesStepUptoRow : OpenClaim := { program := "ytjpngmdfnglabaa", sum := "a3b4268c3c62816d987f43db5a685acd3cb50138ec8330e3b7c5524e82c04f1a", func := "loop.example/strideviews/laws.FnMeetRangesStep", spec := "fnMeetRangesStep", recurses := true, apart := false, narrowed := true }
def FnMeetRangesStepUptoSaid : Prop := fnMeetRangesStepUptoRow.holds Try.pinned (OpenSpec.upto fnMeetRangesStepSpec)

/-- 'laws.FnCoversRange', WHERE WHAT IT READS IS OF BULK AT MOST 1048576: true; the input reads as it did. -/
def fnCoversRangeUptoRow : OpenClaim := { program := "ytjpngmdfnglabaa", sum := "a3b4268c3c62816d987f43db5a685acd3cb50138ec8330e3b7c5524e82c04f1a", func := "loop.example/strideviews/laws.FnCoversRange", spec := "fnCoversRange", unfollowed := true, recurses := true, apart := false, narrowed := true }
def FnCoversRangeUptoSaid : Prop := fnCoversRangeUptoRow.holds Try.pinned (OpenSpec.upto fnCoversRangeSpec)

/-- 'laws.FnFitsIn', WHERE WHAT IT READS IS OF BULK AT MOST 1048576: true; the input reads as it did. -/
def fnFitsInUptoRow : OpenClaim := { program := "ytjpngmdfnglabaa", sum := "a3b4268c3c62816d987f43db5a685acd3cb50138ec8330e3b7c5524e82c04f1a", func := "loop.example/strideviews/laws.FnFitsIn", spec := "fnFitsIn", unfollowed := true, recurses := true, apart := false, narrowed := true }
def FnFitsInUptoSaid : Prop := fnFitsInUptoRow.holds Try.pinned (OpenSpec.upto fnFitsInSpec)

/-- 'laws.FnAddView', WHERE WHAT IT READS IS OF BULK AT MOST 1048576: true; the input reads as it did. -/
def fnAddViewUptoRow : OpenClaim := { program := "ytjpngmdfnglabaa", sum := "a3b4268c3c62816d987f43db5a685acd3cb50138ec8330e3b7c5524e82c04f1a", func := "loop.example/strideviews/laws.FnAddView", spec := "fnAddView", unfollowed := true, recurses := true, apart := false, narrowed := true }
def FnAddViewUptoSaid : Prop := fnAddViewUptoRow.holds Try.pinned (OpenSpec.upto fnAddViewSpec)

/-- 'laws.FnWindowsOf', WHERE WHAT IT READS IS OF BULK AT MOST 1048576: true; the input reads as it did. -/
def fnWindowsOfUptoRow : OpenClaim := { program := "ytjpngmdfnglabaa", sum := "a3b4268c3c62816d987f43db5a685acd3cb50138ec8330e3b7c5524e82c04f1a", func := "loop.example/strideviews/laws.FnWindowsOf", spec := "fnWindowsOf", unfollowed := true, recurses := true, apart := false, narrowed := true }
def FnWindowsOfUptoSaid : Prop := fnWindowsOfUptoRow.holds Try.pinned (OpenSpec.upto fnWindowsOfSpec)

/-- 'laws.FnSplitDim', WHERE WHAT IT READS IS OF BULK AT MOST 1048576: true; the input reads as it did. -/
def fnSplitDimUptoRow : OpenClaim := { program := "ytjpngmdfnglabaa", sum := "a3b4268c3c62816d987f43db5a685acd3cb50138ec8330e3b7c5524e82c04f1a", func := "loop.example/strideviews/laws.FnSplitDim", spec := "fnSplitDim", inPlace := ["slices.overlaps[int]"], unfollowed := true, recurses := true, apart := false, narrowed := true }
def FnSplitDimUptoSaid : Prop := fnSplitDimUptoRow.holds Try.pinned (OpenSpec.upto fnSplitDimSpec)

end Rows
end Go.Proofs.Ytjpngmdfnglabaa
