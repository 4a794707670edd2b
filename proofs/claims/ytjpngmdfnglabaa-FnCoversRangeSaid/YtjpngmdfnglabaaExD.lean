/- Walks: CellsOf and OverlapOf of the program and of the reference. -/
import Derived.Test.YtjpngmdfnglabaaViewF
import Derived.Test.YtjpngmdfnglabaaLp
namespace Go.Proofs.Ytjpngmdfnglabaa
open Go.RowKit
set_option linter.unusedVariables false
set_option maxRecDepth 100000

def cellA (b : Int) (s t : List Int) : List Int := if viewB b s t then cellsL b s t else []
def overA (b1 : Int) (s1 t1 : List Int) (b2 : Int) (s2 t2 : List Int) : List Int := if viewB b1 s1 t1 && viewB b2 s2 t2 then bothL (offsL b1 s1 t1) (offsL b2 s2 t2) else []

end Go.Proofs.Ytjpngmdfnglabaa
