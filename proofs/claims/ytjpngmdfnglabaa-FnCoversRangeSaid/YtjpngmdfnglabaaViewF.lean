/- Plain laws: the program's words on cells are the reference's. -/
import Derived.Test.YtjpngmdfnglabaaViewE
namespace Go.Proofs.Ytjpngmdfnglabaa
open Go.RowKit

theorem bothL_spec (a b : List Int) : (bothL a b).Pairwise (· < ·) ∧ ∀ x, x ∈ bothL a b ↔ (0 ≤ x ∧ x < 60) ∧ x ∈ a ∧ x ∈ b := by
  constructor
  · exact (upL_asc 60).filter _
  · intro x
    simp only [bothL, List.mem_filter, upL_mem, Bool.and_eq_true, List.contains_iff_mem]
    exact Iff.rfl

theorem cellsL_spec (base : Int) (shape strides : List Int) : (cellsL base shape strides).Pairwise (· < ·) ∧ ∀ x, x ∈ cellsL base shape strides ↔ x ∈ offsL base shape strides := dedup_spec _

theorem cells_both {base : Int} {shape strides : List Int} (h : viewB base shape strides = true) : cellsL base shape strides = bothL (offsL base shape strides) (offsL base shape strides) := by
  obtain ⟨h1, h2⟩ := cellsL_spec base shape strides
  obtain ⟨h3, h4⟩ := bothL_spec (offsL base shape strides) (offsL base shape strides)
  refine asc_ext _ _ h1 h3 fun x => ?_
  rw [h2, h4]
  obtain ⟨_, _, _, _, h5⟩ := viewB_in h
  exact ⟨fun hx => ⟨by have := h5 x hx; omega, hx, hx⟩, fun hx => hx.2.1⟩

theorem over_both {base : Int} {shape strides : List Int} {base2 : Int} {shape2 strides2 : List Int} (h : viewB base shape strides = true) :
    overL (cellsL base shape strides) (cellsL base2 shape2 strides2) = bothL (offsL base shape strides) (offsL base2 shape2 strides2) := by
  obtain ⟨h1, h2⟩ := cellsL_spec base shape strides
  obtain ⟨_, h2'⟩ := cellsL_spec base2 shape2 strides2
  obtain ⟨h3, h4⟩ := bothL_spec (offsL base shape strides) (offsL base2 shape2 strides2)
  refine asc_ext _ _ (h1.filter _) h3 fun x => ?_
  rw [h4]
  obtain ⟨_, _, _, _, h5⟩ := viewB_in h
  simp only [overL, List.mem_filter, hasB, List.contains_iff_mem, h2, h2']
  exact ⟨fun hx => ⟨by have := h5 x hx.1; omega, hx⟩, fun hx => hx.2⟩

theorem one_diff {base : Int} {shape strides : List Int} (h : viewB base shape strides = true) : oneB base shape strides = decide (offsL base shape strides).Nodup := by
  obtain ⟨h1, h2⟩ := cellsL_spec base shape strides
  have hl := asc_len h1 h2
  have hin := shapeB_in (viewB_in h).1
  have hc : ((offsL base shape strides).length : Int) = countL shape := by simp [offsL]; omega
  unfold oneB
  rw [Bool.eq_iff_iff, decide_eq_true_eq, ← hl]
  simp; omega

theorem covers_both {base : Int} {shape strides : List Int} {base2 : Int} {shape2 strides2 : List Int} :
    ((overL (cellsL base shape strides) (cellsL base2 shape2 strides2)).length == (cellsL base2 shape2 strides2).length) = (offsL base2 shape2 strides2).all fun x => (offsL base shape strides).contains x := by
  obtain ⟨h1, h2⟩ := cellsL_spec base shape strides
  obtain ⟨h1', h2'⟩ := cellsL_spec base2 shape2 strides2
  rw [Bool.eq_iff_iff]
  simp only [beq_iff_eq, List.all_eq_true, List.contains_iff_mem]
  have hm : ∀ x, x ∈ overL (cellsL base shape strides) (cellsL base2 shape2 strides2) ↔ x ∈ offsL base shape strides ∧ x ∈ offsL base2 shape2 strides2 := by
    intro x; simp only [overL, List.mem_filter, hasB, List.contains_iff_mem, h2, h2']
  have ho : (overL (cellsL base shape strides) (cellsL base2 shape2 strides2)).Pairwise (· < ·) := h1.filter _
  constructor
  · intro hl x hx
    rcases Classical.em (x ∈ offsL base shape strides) with h | h
    · exact h
    · exfalso
      have hsub : overL (cellsL base shape strides) (cellsL base2 shape2 strides2) ⊆ (cellsL base2 shape2 strides2).erase x := by
        intro y hy
        have := (hm y).1 hy
        refine (List.mem_erase_of_ne ?_).2 ((h2' y).2 this.2)
        rintro rfl; exact h this.1
      have h3 := List.Nodup.length_le_of_subset (asc_nodup ho) hsub
      have hx' := (h2' x).2 hx
      rw [List.length_erase_of_mem hx'] at h3
      have := List.length_pos_of_mem hx'
      omega
  · intro hall
    have : overL (cellsL base shape strides) (cellsL base2 shape2 strides2) = cellsL base2 shape2 strides2 :=
      asc_ext _ _ ho h1' fun x => by rw [hm, h2']; exact ⟨fun h => h.2, fun h => ⟨hall x h, h⟩⟩
    rw [this]

end Go.Proofs.Ytjpngmdfnglabaa
