/-
  DERIVED. GIVEN WITH THE SEED: THE CARDS: each row of YtgklaobfikbiiaaDoorRows.lean that lists a variable, with what it lists TIED to the program's text (the seventh form; the later family's looks); each row that meets fmt, with fmt's text TOLD by the authors' own Lean function (tested against real Go, not proved from fmt's source: count such statements apart). THE CARD IS WHAT COUNTS. Prove the row's statement (the work); the ties are given (YtgklaobfikbiiaaDoorTie.lean); close each card by the builder's one call (the guide's Derived/Test/ToyasCard.lean, 'card_holds'). Laid BY PROGRAM, IN A SANDBOX (cutbox-door.mjs). By AI agents, Wed Nov 11 2026. No macro, syntax, notation, axiom, sorry.
-/
import Derived.Test.YtgklaobfikbiiaaDoorRows
import GoSem.ClaimSeven
namespace Go.Proofs.YtgklaobfikbiiaaDoor
namespace Rows

/-- THE TIED CARD OF 'laws.FnValidAct'. -/
def fnValidActCard : Claim7 := { stood := { row := fnValidActRow, standIns := [], harness := (true, "4b3211d6a82b88db9d0de7247b49f5031d48d99c93e0de750bbb84db6000826b"), looks := false }, kinds := [], alts := [], laidByText := true, laidKinds := [.data], laidTests := true, laidLooks := .later }
def FnValidActCardSaid : Prop := Claim7.holds Tryd.pinned (.plain (OpenSpec.ofChange fnValidActSpec)) fnValidActCard

/-- THE SECOND FORM's CARD OF 'laws.FnValidAct'. -/
def fnValidActUptoCard : Claim7 := { stood := { row := fnValidActUptoRow, standIns := [], harness := (true, "4b3211d6a82b88db9d0de7247b49f5031d48d99c93e0de750bbb84db6000826b"), looks := false }, kinds := [], alts := [], laidByText := true, laidKinds := [.data], laidTests := true, laidLooks := .later }
def FnValidActUptoCardSaid : Prop := Claim7.holds Tryd.pinned (.plain (OpenSpec.upto fnValidActSpec)) fnValidActUptoCard
end Rows
end Go.Proofs.YtgklaobfikbiiaaDoor
