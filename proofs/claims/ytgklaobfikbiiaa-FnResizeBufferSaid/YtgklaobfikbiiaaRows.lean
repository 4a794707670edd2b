/-
  No cell of these rows narrows 'for every input' (looked for: loops, veiled, ifaces, maps, wideKeys, modest, calm, conditions, laid).
  DERIVED. THE GIVEN ROWS OF THIS SEAT. 6 by the template 'for every input the law returns true; each argument reads behind the call as it read before'; 0 by the template 'total and deterministic' (their statements: YtgklaobfikbiiaaTotals.lean).
  GIVEN WITH THE SEED: the statements are not yours to turn. If you find one false, say at which input.
  Laid BY PROGRAM, IN A SANDBOX (cutbox-rows.mjs): the forced cells as the released guide's own fill.sh prints them over the translation 4991da347d88d761… (all of the seat's roots in one cut). By AI agents, Wed Nov 11 2026. No macro, syntax, notation, axiom, sorry.
-/
import Derived.Test.YtgklaobfikbiiaaChecked
import GoSem.Claim
import GoSem.ClaimJoined
import GoSem.ClaimMapViews
import Derived.JoinedTies
import Derived.KernelRfl
namespace Go.Proofs.Ytgklaobfikbiiaa
/- THE CELL 'sum', in the pinned program and in every row, IS THE sha256 OF THE DUMP (.gsa) THAT YtgklaobfikbiiaaProg.lean LOADS. Nothing in Lean hashes anything: it is a label: what it is worth is what the hold of that sum in a sandbox is worth. -/
noncomputable def Try.pinned : Pinned := { name := "ytgklaobfikbiiaa", sum := "4991da347d88d7614aaabe13db864b54a9f7dafe91cfc6d7c8d646805373fec3", checked := Try.checked }
namespace Rows
def none {H : Type} : Left H := { results := [], args := [] }

/-- 'laws.FnValidBuffer': WHATEVER THE INPUT: true; the input reads as it did. -/
def fnValidBufferSpec : ChangeSpec := { name := "fnValidBuffer", fn := fun _ => fun
  | [d] => { results := [.lit (.bool true)], args := [d] }
  | _ => none }
def fnValidBufferRow : OpenClaim := { program := "ytgklaobfikbiiaa", sum := "4991da347d88d7614aaabe13db864b54a9f7dafe91cfc6d7c8d646805373fec3", func := "loop.example/strideviews/laws.FnValidBuffer", spec := "fnValidBuffer", unfollowed := true, recurses := true, apart := false }
def FnValidBufferSaid : Prop := fnValidBufferRow.holds Try.pinned (OpenSpec.ofChange fnValidBufferSpec)

/-- ITS FALSE NEIGHBOUR: 'it returns false'. Refute it at one input. -/
def fnValidBufferWrong : ChangeSpec := { name := "fnValidBuffer", fn := fun _ => fun
  | [d] => { results := [.lit (.bool false)], args := [d] }
  | _ => none }
def FnValidBufferWrongFalsely : Prop := fnValidBufferRow.holds Try.pinned (OpenSpec.ofChange fnValidBufferWrong)

/-- 'laws.FnResizeBuffer': WHATEVER THE INPUT: true; the input reads as it did. -/
def fnResizeBufferSpec : ChangeSpec := { name := "fnResizeBuffer", fn := fun _ => fun
  | [d] => { results := [.lit (.bool true)], args := [d] }
  | _ => none }
def fnResizeBufferRow : OpenClaim := { program := "ytgklaobfikbiiaa", sum := "4991da347d88d7614aaabe13db864b54a9f7dafe91cfc6d7c8d646805373fec3", func := "loop.example/strideviews/laws.FnResizeBuffer", spec := "fnResizeBuffer", unfollowed := true, recurses := true, apart := false }
def FnResizeBufferSaid : Prop := fnResizeBufferRow.holds Try.pinned (OpenSpec.ofChange fnResizeBufferSpec)

/-- ITS FALSE NEIGHBOUR: 'it returns false'. Refute it at one input. -/
def fnResizeBufferWrong : ChangeSpec := { name := "fnResizeBuffer", fn := fun _ => fun
  | [d] => { results := [.lit (.bool false)], args := [d] }
  | _ => none }
def FnResizeBufferWrongFalsely : Prop := fnResizeBufferRow.holds Try.pinned (OpenSpec.ofChange fnResizeBufferWrong)

/-- 'laws.FnOpenOf': WHATEVER THE INPUT: true; the input reads as it did. -/
def fnOpenOfSpec : ChangeSpec := { name := "fnOpenOf", fn := fun _ => fun
  | [d] => { results := [.lit (.bool true)], args := [d] }
  | _ => none }
def fnOpenOfRow : OpenClaim := { program := "ytgklaobfikbiiaa", sum := "4991da347d88d7614aaabe13db864b54a9f7dafe91cfc6d7c8d646805373fec3", func := "loop.example/strideviews/laws.FnOpenOf", spec := "fnOpenOf", unfollowed := true, recurses := true, apart := false }
def FnOpenOfSaid : Prop := fnOpenOfRow.holds Try.pinned (OpenSpec.ofChange fnOpenOfSpec)

/-- ITS FALSE NEIGHBOUR: 'it returns false'. Refute it at one input. -/
def fnOpenOfWrong : ChangeSpec := { name := "fnOpenOf", fn := fun _ => fun
  | [d] => { results := [.lit (.bool false)], args := [d] }
  | _ => none }
def FnOpenOfWrongFalsely : Prop := fnOpenOfRow.holds Try.pinned (OpenSpec.ofChange fnOpenOfWrong)

/-- 'laws.FnLoadExport': WHATEVER THE INPUT: true; the input reads as it did. -/
def fnLoadExportSpec : ChangeSpec := { name := "fnLoadExport", fn := fun _ => fun
  | [d] => { results := [.lit (.bool true)], args := [d] }
  | _ => none }
def fnLoadExportRow : OpenClaim := { program := "ytgklaobfikbiiaa", sum := "4991da347d88d7614aaabe13db864b54a9f7dafe91cfc6d7c8d646805373fec3", func := "loop.example/strideviews/laws.FnLoadExport", spec := "fnLoadExport", unfollowed := true, recurses := true, apart := false }
def FnLoadExportSaid : Prop := fnLoadExportRow.holds Try.pinned (OpenSpec.ofChange fnLoadExportSpec)

/-- ITS FALSE NEIGHBOUR: 'it returns false'. Refute it at one input. -/
def fnLoadExportWrong : ChangeSpec := { name := "fnLoadExport", fn := fun _ => fun
  | [d] => { results := [.lit (.bool false)], args := [d] }
  | _ => none }
def FnLoadExportWrongFalsely : Prop := fnLoadExportRow.holds Try.pinned (OpenSpec.ofChange fnLoadExportWrong)

/-- 'laws.FnKidsOf': WHATEVER THE INPUT: true; the input reads as it did. -/
def fnKidsOfSpec : ChangeSpec := { name := "fnKidsOf", fn := fun _ => fun
  | [d] => { results := [.lit (.bool true)], args := [d] }
  | _ => none }
def fnKidsOfRow : OpenClaim := { program := "ytgklaobfikbiiaa", sum := "4991da347d88d7614aaabe13db864b54a9f7dafe91cfc6d7c8d646805373fec3", func := "loop.example/strideviews/laws.FnKidsOf", spec := "fnKidsOf", unfollowed := true, recurses := true, apart := false }
def FnKidsOfSaid : Prop := fnKidsOfRow.holds Try.pinned (OpenSpec.ofChange fnKidsOfSpec)

/-- ITS FALSE NEIGHBOUR: 'it returns false'. Refute it at one input. -/
def fnKidsOfWrong : ChangeSpec := { name := "fnKidsOf", fn := fun _ => fun
  | [d] => { results := [.lit (.bool false)], args := [d] }
  | _ => none }
def FnKidsOfWrongFalsely : Prop := fnKidsOfRow.holds Try.pinned (OpenSpec.ofChange fnKidsOfWrong)

/-- 'laws.FnReleaseExport': WHATEVER THE INPUT: true; the input reads as it did. -/
def fnReleaseExportSpec : ChangeSpec := { name := "fnReleaseExport", fn := fun _ => fun
  | [d] => { results := [.lit (.bool true)], args := [d] }
  | _ => none }
def fnReleaseExportRow : OpenClaim := { program := "ytgklaobfikbiiaa", sum := "4991da347d88d7614aaabe13db864b54a9f7dafe91cfc6d7c8d646805373fec3", func := "loop.example/strideviews/laws.FnReleaseExport", spec := "fnReleaseExport", unfollowed := true, recurses := true, apart := false }
def FnReleaseExportSaid : Prop := fnReleaseExportRow.holds Try.pinned (OpenSpec.ofChange fnReleaseExportSpec)

/-- ITS FALSE NEIGHBOUR: 'it returns false'. Refute it at one input. -/
def fnReleaseExportWrong : ChangeSpec := { name := "fnReleaseExport", fn := fun _ => fun
  | [d] => { results := [.lit (.bool false)], args := [d] }
  | _ => none }
def FnReleaseExportWrongFalsely : Prop := fnReleaseExportRow.holds Try.pinned (OpenSpec.ofChange fnReleaseExportWrong)

/- THE SECOND FORM. 'bulk': how many values and letters a reading holds, each counted each time it is reached (what is shared counts as often as it is met; a slice's spare places count too). A statement '..UptoSaid' is the law's where the arguments, and the package variables that the reading takes, are together of bulk at most 1048576: NARROWER than '..Said'. Prove '..Said' where nothing that the law and all that it calls make is longer than what came in: it says more and counts as full. Else prove '..UptoSaid'. A law counts once. -/
mutual
def uptoBulk {H : Type} : DataW H → Nat
  | .lit (.string bytes) => bytes.length + 1
  | .lit _ => 1
  | .nil => 1
  | .ptr d => uptoBulk d + 1
  | .slice elems spare => uptoBulkAll elems + uptoBulkAll spare + 1
  | .agg parts => uptoBulkAll parts + 1
  | .iface _ d => uptoBulk d + 1
  | .map entries => uptoBulkEntries entries + 1
  | .held _ => 1
def uptoBulkAll {H : Type} : List (DataW H) → Nat
  | [] => 0
  | d :: r => uptoBulk d + uptoBulkAll r
def uptoBulkEntries {H : Type} : List (Lit × DataW H) → Nat
  | [] => 0
  | x :: r => uptoBulkEntry x + uptoBulkEntries r
def uptoBulkEntry {H : Type} : Lit × DataW H → Nat
  | (.string bytes, d) => bytes.length + uptoBulk d + 1
  | (_, d) => uptoBulk d + 1
 end
def uptoSmall : (H : Type) → List (DataW H) → Bool := fun _ ds => decide (uptoBulkAll ds ≤ 1048576)
def OpenSpec.upto (s : _root_.Go.ChangeSpec) : _root_.Go.OpenSpec := { _root_.Go.OpenSpec.ofChange s with cond := some uptoSmall }

/-- 'laws.FnValidBuffer', WHERE WHAT IT READS IS OF BULK AT MOST 1048576: true; the input reads as it did. -/
def fnValidBufferUptoRow : OpenClaim := { program := "ytgklaobfikbiiaa", sum := "4991da347d88d7614aaabe13db864b54a9f7dafe91cfc6d7c8d646805373fec3", func := "loop.example/strideviews/laws.FnValidBuffer", spec := "fnValidBuffer", unfollowed := true, recurses := true, apart := false, narrowed := true }
def FnValidBufferUptoSaid : Prop := fnValidBufferUptoRow.holds Try.pinned (OpenSpec.upto fnValidBufferSpec)

/-- 'laws.FnResizeBuffer', WHERE WHAT IT READS IS OF BULK AT MOST 1048576: true; the input reads as it did. -/
def fnResizeBufferUptoRow : OpenClaim := { program := "ytgklaobfikbiiaa", sum := "4991da347d88d7614aaabe13db864b54a9f7dafe91cfc6d7c8d646805373fec3", func := "loop.example/strideviews/laws.FnResizeBuffer", spec := "fnResizeBuffer", unfollowed := true, recurses := true, apart := false, narrowed := true }
def FnResizeBufferUptoSaid : Prop := fnResizeBufferUptoRow.holds Try.pinned (OpenSpec.upto fnResizeBufferSpec)

/-- 'laws.FnOpenOf', WHERE WHAT IT READS IS OF BULK AT MOST 1048576: true; the input reads as it did. -/
def fnOpenOfUptoRow : OpenClaim := { program := "ytgklaobfikbiiaa", sum := "4991da347d88d7614aaabe13db864b54a9f7dafe91cfc6d7c8d646805373fec3", func := "loop.example/strideviews/laws.FnOpenOf", spec := "fnOpenOf", unfollowed := true, recurses := true, apart := false, narrowed := true }
def FnOpenOfUptoSaid : Prop := fnOpenOfUptoRow.holds Try.pinned (OpenSpec.upto fnOpenOfSpec)

/-- 'laws.FnLoadExport', WHERE WHAT IT READS IS OF BULK AT MOST 1048576: true; the input reads as it did. -/
def fnLoadExportUptoRow : OpenClaim := { program := "ytgklaobfikbiiaa", sum := "4991da347d88d7614aaabe13db864b54a9f7dafe91cfc6d7c8d646805373fec3", func := "loop.example/strideviews/laws.FnLoadExport", spec := "fnLoadExport", unfollowed := true, recurses := true, apart := false, narrowed := true }
def FnLoadExportUptoSaid : Prop := fnLoadExportUptoRow.holds Try.pinned (OpenSpec.upto fnLoadExportSpec)

/-- 'laws.FnKidsOf', WHERE WHAT IT READS IS OF BULK AT MOST 1048576: true; the input reads as it did. -/
def fnKidsOfUptoRow : OpenClaim := { program := "ytgklaobfikbiiaa", sum := "4991da347d88d7614aaabe13db864b54a9f7dafe91cfc6d7c8d646805373fec3", func := "loop.example/strideviews/laws.FnKidsOf", spec := "fnKidsOf", unfollowed := true, recurses := true, apart := false, narrowed := true }
def FnKidsOfUptoSaid : Prop := fnKidsOfUptoRow.holds Try.pinned (OpenSpec.upto fnKidsOfSpec)

/-- 'laws.FnReleaseExport', WHERE WHAT IT READS IS OF BULK AT MOST 1048576: true; the input reads as it did. -/
def fnReleaseExportUptoRow : OpenClaim := { program := "ytgklaobfikbiiaa", sum := "4991da347d88d7614aaabe13db864b54a9f7dafe91cfc6d7c8d646805373fec3", func := "loop.example/strideviews/laws.FnReleaseExport", spec := "fnReleaseExport", unfollowed := true, recurses := true, apart := false, narrowed := true }
def FnReleaseExportUptoSaid : Prop := fnReleaseExportUptoRow.holds Try.pinned (OpenSpec.upto fnReleaseExportSpec)

end Rows
end Go.Proofs.Ytgklaobfikbiiaa
