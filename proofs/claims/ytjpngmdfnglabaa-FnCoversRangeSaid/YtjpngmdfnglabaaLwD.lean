/- The laws' helpers in the form that the laws' walks take; rows under marks. No condition. -/
import Derived.Test.YtjpngmdfnglabaaLwC
namespace Go.Proofs.Ytjpngmdfnglabaa
open Go.RowKit
set_option linter.unusedVariables false

theorem Ext.size {w w' : World} (h : Ext w w') : w.heap.size ≤ w'.heap.size := Below.size h
theorem Ints.len {w : World} {lo : Nat} {v : Value} {xs : List Int} (h : Ints w lo v xs) : xs.length ≤ 4194304 := by obtain ⟨_, _, _, _, _, ⟨h, _⟩, _⟩ := h; exact h
theorem OwnZ.bound {w : World} {base : Nat} {v : Value} {xs : List Int} (h : OwnZ w base v xs) : xs ≠ [] → ∀ g, v.ownBlock = some g → g < w.heap.size := by
  intro hn g hg
  obtain ⟨g', e, _, hl⟩ := h.lt hn
  rw [e] at hg; cases hg; exact hl
theorem OwnZ.chgB {w w' : World} {lo hi base : Nat} {v : Value} {xs : List Int} (h : OwnZ w base v xs) (k : Chg lo hi w w') (hb : xs ≠ [] → ∀ g, v.ownBlock = some g → g < lo) : OwnZ w' base v xs := by
  rcases h with h | h
  · exact .inl h
  · by_cases hx : xs = []
    · subst hx
      obtain ⟨h1, h2⟩ := h
      rcases h2 with ⟨rfl, _⟩ | ⟨g, cap, cur, rfl, hg, hh, h3, h4, r⟩
      · exact .inl ⟨rfl, none, 0, rfl, by simp, fun _ => rfl⟩
      · exact .inl ⟨rfl, _, cap, rfl, h4, fun h => by cases h⟩
    · obtain ⟨h1, h2⟩ := h
      rcases h2 with h2 | ⟨g, cap, cur, rfl, hg, hh, r⟩
      · exact .inr ⟨h1, .inl h2⟩
      · exact .inr ⟨h1, .inr ⟨g, cap, cur, rfl, hg, (k.block g (Array.getElem?_eq_some_iff.1 hh).1 (.inl (hb hx g rfl))).trans hh, r⟩⟩
theorem szV_ge {left : Int} {n m : Nat} (h0 : 0 ≤ left) (h : ¬ szV left n m < 0) : (n : Int) ≤ left ∧ (m : Int) ≤ left ∧ szV left n m = left - n - m := by
  unfold szV at h ⊢
  have g := szN_ge left n
  split at h
  · omega
  · rename_i h1
    rw [if_neg h1]
    have g2 := szN_ge (szN left n) m
    omega

end Go.Proofs.Ytjpngmdfnglabaa
