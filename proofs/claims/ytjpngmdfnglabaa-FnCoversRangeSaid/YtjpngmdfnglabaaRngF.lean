/- Plain laws on what two ranges have in common: its numbers counted, the other way round, covered. -/
import Derived.Test.YtjpngmdfnglabaaRngE
namespace Go.Proofs.Ytjpngmdfnglabaa
open Go.RowKit
set_option linter.unusedVariables false

/-- how many numbers of the first list the second has -/
def cntB (xs ys : List Int) : Int := (xs.countP fun x => ys.contains x : Nat)
theorem cntB_le (xs ys : List Int) : 0 ≤ cntB xs ys ∧ cntB xs ys ≤ xs.length := by
  have := List.countP_le_length (p := fun x => ys.contains x) (l := xs)
  unfold cntB; omega
theorem cntB_take (xs ys : List Int) (k : Nat) (h : k < xs.length) : cntB (xs.take (k+1)) ys = cntB (xs.take k) ys + if xs[k] ∈ ys then 1 else 0 := by
  unfold cntB
  rw [List.take_succ_eq_append_getElem h, List.countP_append, List.countP_cons, List.countP_nil]
  by_cases hm : xs[k] ∈ ys
  · simp [hm]
  · simp [hm]
theorem idx_ge (xs : List Int) (x : Int) : 0 ≤ Lib.idxOf xs x ↔ x ∈ xs := by
  constructor
  · intro h
    refine Classical.byContradiction fun hn => ?_
    have : Lib.idxOf xs x = -1 := Lib.idxFrom_miss x xs 0 fun j hj he => hn (by rw [← he]; simp [hj])
    omega
  · intro h
    obtain ⟨k, hk, hx, hmin⟩ : ∃ k, k < xs.length ∧ xs.getD k 0 = x ∧ ∀ j, j < k → xs.getD j 0 ≠ x := by
      have hl : xs.findIdx (fun y => y == x) < xs.length := List.findIdx_lt_length_of_exists ⟨x, h, by simp⟩
      refine ⟨_, hl, ?_, fun j hj he => ?_⟩
      · have := List.findIdx_getElem (w := hl); simpa [hl] using this
      · have := List.not_of_lt_findIdx hj
        simp [show j < xs.length by omega] at he
        simp [he] at this
    have := Lib.idxFrom_hit x xs k 0 hk hx hmin
    unfold Lib.idxOf; omega
theorem rplace_ge {a e d : Int} (h : rangeB a e d = true) (x : Int) : 0 ≤ rplaceA a e d x ↔ x ∈ numL a e d := by
  unfold rplaceA; rw [h, if_pos rfl]; exact idx_ge _ _
theorem rnum_eq {a e d : Int} (h : rangeB a e d = true) : rnumA a e d = numL a e d := by unfold rnumA; rw [h]; rfl
theorem rnum_len {a e d : Int} (h : rangeB a e d = true) : (rnumA a e d).length ≤ 3000 := by
  rw [rnum_eq h, numL_len]
  obtain ⟨h1, h2, h3, h4⟩ := rangeB_in h
  have := cntL_le (a := a) (b := e) (s := d) (by omega) (by omega) h4
  omega
theorem ascL_count (xs ys : List Int) : (meetL (ascL xs) ys).length = xs.countP fun x => ys.contains x := by
  unfold meetL
  rw [← List.countP_eq_length_filter]
  unfold ascL
  split
  · split
    · rw [List.countP_reverse]
    · rfl
  · rfl
section
variable {x y z x2 y2 z2 : Int} (h1 : rangeB x y z = true) (h2 : rangeB x2 y2 z2 = true)
include h1 h2
theorem meet_len : rlenA (meetT x y z x2 y2 z2).1 (meetT x y z x2 y2 z2).2.1 (meetT x y z x2 y2 z2).2.2 = cntB (rnumA x y z) (numL x2 y2 z2) := by
  obtain ⟨g1, g2, g3, g4⟩ := meet_all h1 h2
  unfold rlenA
  rw [g1, if_pos rfl, ← numL_len, g2, rnum_eq h1]
  unfold meetR cntB
  rw [ascL_count]
theorem meet_place : ∀ q ∈ rnumA x y z, (0 ≤ rplaceA x2 y2 z2 q → 0 ≤ rplaceA (meetT x y z x2 y2 z2).1 (meetT x y z x2 y2 z2).2.1 (meetT x y z x2 y2 z2).2.2 q ∧ q ∈ numL x2 y2 z2) ∧ (q ∈ numL x2 y2 z2 → 0 ≤ rplaceA x2 y2 z2 q) := by
  obtain ⟨g1, g2, g3, g4⟩ := meet_all h1 h2
  intro q hq
  rw [rnum_eq h1] at hq
  rw [rplace_ge h2, rplace_ge g1, g2, g4]
  exact ⟨fun h => ⟨⟨hq, h⟩, h⟩, id⟩
theorem meet_swap : meetT x2 y2 z2 x y z = meetT x y z x2 y2 z2 := by
  obtain ⟨g1, g2, g3, g4⟩ := meet_all h1 h2
  obtain ⟨k1, k2, k3, k4⟩ := meet_all h2 h1
  have e : meetR x2 y2 z2 x y z = meetR x y z x2 y2 z2 := asc_ext _ _ k3 g3 fun q => by rw [k4, g4]; exact And.comm
  unfold meetT
  rw [h1, h2, e]
theorem meet_cov1 : rcovB x y z (meetT x y z x2 y2 z2).1 (meetT x y z x2 y2 z2).2.1 (meetT x y z x2 y2 z2).2.2 = true := by
  obtain ⟨g1, g2, g3, g4⟩ := meet_all h1 h2
  unfold rcovB
  rw [h1, g1, g2]
  simp only [Bool.true_and, List.all_eq_true, List.contains_iff_mem]
  exact fun q hq => ((g4 q).1 hq).1
theorem meet_cov2 : rcovB x2 y2 z2 (meetT x y z x2 y2 z2).1 (meetT x y z x2 y2 z2).2.1 (meetT x y z x2 y2 z2).2.2 = true := by
  obtain ⟨g1, g2, g3, g4⟩ := meet_all h1 h2
  unfold rcovB
  rw [h2, g1, g2]
  simp only [Bool.true_and, List.all_eq_true, List.contains_iff_mem]
  exact fun q hq => ((g4 q).1 hq).2
theorem meet_num : (rnumA (meetT x y z x2 y2 z2).1 (meetT x y z x2 y2 z2).2.1 (meetT x y z x2 y2 z2).2.2).Pairwise (· < ·) := by
  obtain ⟨g1, g2, g3, g4⟩ := meet_all h1 h2
  rw [rnum_eq g1, g2]
  exact g3
end
end Go.Proofs.Ytjpngmdfnglabaa
