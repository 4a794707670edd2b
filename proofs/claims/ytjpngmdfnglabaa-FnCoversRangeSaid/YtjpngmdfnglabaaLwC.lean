/- Walks of the laws' marks on lists and on views. -/
import Derived.Test.YtjpngmdfnglabaaLwB
namespace Go.Proofs.Ytjpngmdfnglabaa
open Go.RowKit
set_option linter.unusedVariables false
set_option maxRecDepth 100000

theorem OwnZ.nilOf {w : World} {w' : World} {lo lo' : Nat} {v : Value} (h : Ints w lo v []) : OwnZ w' lo' v [] := by
  obtain ⟨a, cap, rfl, h1, h2, h3, _⟩ := h
  exact .inl ⟨rfl, a, cap, rfl, h2, h3.2⟩

theorem OwnZ.keptG {w w' : World} {lo : Nat} {v : Value} {xs : List Int} {row : Option Nat} (h : OwnZ w lo v xs) (hl : xs.length ≤ 4194304) (hg : w.grownBy w' row) (hne : xs ≠ [] → v.ownBlock ≠ row) : OwnZ w' lo v xs := by
  by_cases hx : xs = []
  · subst hx; exact OwnZ.nilOf (h.ints hl)
  · rcases h with ⟨h, _⟩ | h
    · exact absurd h hx
    · exact .inr (h.kept hg (.inr (hne hx)))

end Go.Proofs.Ytjpngmdfnglabaa
