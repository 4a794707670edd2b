/- Walks: one to one views, what two views have, and the program's exported questions about them. -/
import Derived.Test.YtjpngmdfnglabaaViewD
namespace Go.Proofs.Ytjpngmdfnglabaa
open Go.RowKit
set_option linter.unusedVariables false
set_option maxRecDepth 100000

theorem offs_len {base : Int} {shape strides : List Int} (h : viewB base shape strides = true) : (offsL base shape strides).length ≤ 60 := by
  obtain ⟨h1, _⟩ := viewB_in h
  have := shapeB_in h1
  simp [offsL]; omega
theorem cells_len {base : Int} {shape strides : List Int} (h : viewB base shape strides = true) : (cellsL base shape strides).length ≤ 60 := by
  have := offs_len h
  have h2 := compact_len_le (sortL (offsL base shape strides))
  rw [sortL_len] at h2; unfold cellsL; omega

def oneB (base : Int) (shape strides : List Int) : Bool := ((cellsL base shape strides).length : Int) == countL shape

def overL (a b : List Int) : List Int := a.filter fun x => hasB b x
theorem overL_take (a b : List Int) (k : Nat) (hk : k < a.length) : overL (a.take (k+1)) b = overL (a.take k) b ++ if hasB b a[k] then [a[k]] else [] := by
  unfold overL; rw [List.take_succ_eq_append_getElem hk, List.filter_append]; congr 1; simp only [List.filter_cons, List.filter_nil]
theorem overL_len (a b : List Int) : (overL a b).length ≤ a.length := List.length_filter_le _ _

end Go.Proofs.Ytjpngmdfnglabaa
