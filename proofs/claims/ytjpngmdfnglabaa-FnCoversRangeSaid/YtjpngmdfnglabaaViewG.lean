/- Plain laws: repeated cells, gaps between cells, later and earlier cells. -/
import Derived.Test.YtjpngmdfnglabaaViewF
import Derived.Test.YtjpngmdfnglabaaPureB
namespace Go.Proofs.Ytjpngmdfnglabaa
open Go.RowKit
set_option linter.unusedVariables false

theorem getD_get {xs : List Int} {i : Nat} (h : i < xs.length) : xs.getD i 0 = xs[i] := by simp [h]

/-- the cells among the first m that came before -/
def repUp (xs : List Int) (m : Nat) : List Int := ((List.range m).filter fun i => (xs.take i).contains (xs.getD i 0)).map fun i => xs.getD i 0
theorem repUp_succ (xs : List Int) (m : Nat) : repUp xs (m+1) = repUp xs m ++ if (xs.take m).contains (xs.getD m 0) then [xs.getD m 0] else [] := by
  unfold repUp
  rw [List.range_succ, List.filter_append, List.map_append]
  congr 1
  rw [List.filter_cons, List.filter_nil]
  split <;> rfl
theorem repUp_len (xs : List Int) (m : Nat) : (repUp xs m).length ≤ m := by
  unfold repUp; rw [List.length_map]; exact Nat.le_trans (List.length_filter_le _ _) (by simp)
theorem repUp_mem (xs : List Int) (x : Int) : x ∈ repUp xs xs.length ↔ ∃ i j, ∃ (hi : i < xs.length) (hj : j < i), xs[i] = x ∧ xs[j] = x := by
  simp only [repUp, List.mem_map, List.mem_filter, List.mem_range, List.contains_iff_mem]
  constructor
  · rintro ⟨i, ⟨hi, hm⟩, rfl⟩
    rw [getD_get hi] at hm ⊢
    obtain ⟨j, hj, e⟩ := List.mem_take_iff_getElem.1 hm
    exact ⟨i, j, hi, by omega, rfl, e⟩
  · rintro ⟨i, j, hi, hj, e1, e2⟩
    refine ⟨i, ⟨hi, ?_⟩, by rw [getD_get hi]; exact e1⟩
    rw [getD_get hi, e1, ← e2]
    exact List.mem_take_iff_getElem.2 ⟨j, by omega, rfl⟩

theorem placeL_some {xs : List Int} {x : Int} (h : 0 ≤ placeL xs x) : ∃ k : Nat, placeL xs x = k ∧ ∃ (hk : k < xs.length), xs[k] = x ∧ ∀ j, ∀ (_ : j < xs.length), xs[j] = x → k ≤ j := by
  unfold placeL findI at h ⊢
  split at h
  · rename_i ha
    rw [if_pos ha]
    have hl : xs.findIdx (fun y => y == x) < xs.length := List.findIdx_lt_length_of_exists (by simpa using ha)
    refine ⟨_, rfl, hl, ?_, ?_⟩
    · have := List.findIdx_getElem (w := hl); simpa using this
    · intro j hj e
      rcases Nat.lt_or_ge j (xs.findIdx fun y => y == x) with h' | h'
      · have := List.not_of_lt_findIdx h'; simp [e] at this
      · exact h'
  · omega

/-- a cell that comes twice -/
def repB (xs : List Int) (x : Int) : Bool := decide (0 ≤ placeL xs x) && decide (0 ≤ placeL (xs.drop ((placeL xs x).toNat + 1)) x)
theorem repB_iff (xs : List Int) (x : Int) : repB xs x = true ↔ ∃ i j, ∃ (hi : i < xs.length) (hj : j < i), xs[i] = x ∧ xs[j] = x := by
  unfold repB
  rw [Bool.and_eq_true, decide_eq_true_eq, placeL_ge, List.contains_iff_mem]
  constructor
  · rintro ⟨h1, h2⟩
    obtain ⟨k, e, hk, hx, _⟩ := placeL_some h1
    rw [e] at h2
    obtain ⟨i, hi, e2⟩ := List.mem_iff_getElem.1 h2
    simp only [List.length_drop, Int.toNat_natCast] at hi
    simp only [List.getElem_drop, Int.toNat_natCast] at e2
    exact ⟨k + 1 + i, k, by omega, by omega, e2, hx⟩
  · rintro ⟨i, j, hi, hj, e1, e2⟩
    have hm : x ∈ xs := by rw [← e1]; exact List.getElem_mem hi
    have h1 : 0 ≤ placeL xs x := of_decide_eq_true ((placeL_ge xs x).trans (List.contains_iff_mem.2 hm))
    obtain ⟨k, e, hk, hx, hmin⟩ := placeL_some h1
    refine ⟨h1, ?_⟩
    rw [e]
    have := hmin j (by omega) e2
    rw [List.mem_iff_getElem]
    refine ⟨i - (k + 1), by simp only [List.length_drop, Int.toNat_natCast]; omega, ?_⟩
    simp only [List.getElem_drop, Int.toNat_natCast]
    have e3 : k + 1 + (i - (k + 1)) = i := by omega
    simp only [e3]; exact e1

def repS (xs : List Int) (m : Nat) : List Int := (upL m).filter (repB xs)
theorem repS_succ (xs : List Int) (m : Nat) : repS xs (m+1) = repS xs m ++ if repB xs m then [(m : Int)] else [] := by
  unfold repS; rw [upL_succ, List.filter_append]; congr 1; rw [List.filter_cons, List.filter_nil]
theorem rep_eq {xs : List Int} (h : ∀ x ∈ xs, 0 ≤ x ∧ x ≤ 59) : Lib.compact (sortL (repUp xs xs.length)) = repS xs 60 := by
  obtain ⟨h1, h2⟩ := dedup_spec (repUp xs xs.length)
  refine asc_ext _ _ h1 ((upL_asc 60).filter _) fun x => ?_
  rw [h2, repUp_mem]
  unfold repS
  rw [List.mem_filter, upL_mem, repB_iff]
  constructor
  · rintro ⟨i, j, hi, hj, e1, e2⟩
    have := h x (by rw [← e1]; exact List.getElem_mem hi)
    exact ⟨by omega, i, j, hi, hj, e1, e2⟩
  · exact fun h => h.2

/-- the numbers between two -/
def gapR (a b : Int) (n : Nat) : List Int := (List.range n).map fun k : Nat => a + 1 + k
theorem gapR_succ (a b : Int) (n : Nat) : gapR a b (n+1) = gapR a b n ++ [a + 1 + n] := by simp [gapR, List.range_succ]
theorem gapR_len (a b : Int) (n : Nat) : (gapR a b n).length = n := by simp [gapR]
/-- the gaps between the first m + 1 cells -/
def gapUp (cs : List Int) : Nat → List Int
  | 0 => []
  | m+1 => gapUp cs m ++ gapR (cs.getD m 0) (cs.getD (m+1) 0) (cs.getD (m+1) 0 - cs.getD m 0 - 1).toNat
def gapL (cs : List Int) : List Int := gapUp cs (cs.length - 1)
theorem gapUp_len {cs : List Int} (h : ∀ x ∈ cs, 0 ≤ x ∧ x ≤ 59) (m : Nat) (hm : m < cs.length ∨ m = 0) : (gapUp cs m).length ≤ 60 * m := by
  induction m with
  | zero => simp [gapUp]
  | succ m ih =>
    have h1 := h _ (List.getElem_mem (show m < cs.length by omega))
    have h2 := h _ (List.getElem_mem (show m + 1 < cs.length by omega))
    have := ih (by omega)
    rw [gapUp, List.length_append, gapR_len, getD_get (by omega), getD_get (by omega)]
    omega

/-- is a cell of to, among the first m, a later cell of fr? -/
def latUp (to fr : List Int) (m : Nat) : Bool := (List.range m).any fun i => (fr.drop (i+1)).contains (to.getD i 0)
def earUp (to fr : List Int) (m : Nat) : Bool := (List.range m).any fun i => (fr.take i).contains (to.getD i 0)
theorem latUp_succ (to fr : List Int) (m : Nat) : latUp to fr (m+1) = (latUp to fr m || (fr.drop (m+1)).contains (to.getD m 0)) := by
  unfold latUp; rw [List.range_succ, List.any_append]; simp
theorem earUp_succ (to fr : List Int) (m : Nat) : earUp to fr (m+1) = (earUp to fr m || (fr.take m).contains (to.getD m 0)) := by
  unfold earUp; rw [List.range_succ, List.any_append]; simp

def badB (to fr : List Int) (back : Bool) (i k : Nat) : Bool := (to.getD i 0 == fr.getD k 0) && (bif back then decide (k < i) else decide (i < k))
def cleanB (to fr : List Int) (back : Bool) : Bool := (List.range to.length).all fun i => (List.range to.length).all fun k => !badB to fr back i k

theorem clean_lat {to fr : List Int} (h : fr.length = to.length) : cleanB to fr false = !latUp to fr to.length := by
  rw [Bool.eq_iff_iff]
  unfold cleanB latUp
  simp only [Bool.not_eq_true', List.any_eq_false, List.all_eq_true, List.mem_range, badB, Bool.cond_false, Bool.and_eq_false_imp, beq_iff_eq, decide_eq_false_iff_not, List.contains_iff_mem]
  constructor
  · intro H i hi hm
    obtain ⟨j, hj, e⟩ := List.mem_iff_getElem.1 hm
    rw [List.length_drop] at hj
    rw [List.getElem_drop] at e
    exact H i hi (i + 1 + j) (by omega) (by rw [getD_get (xs := fr) (i := i + 1 + j) (by omega)]; exact e.symm) (by omega)
  · intro H i hi k hk e hlt
    refine H i hi ?_
    rw [e, getD_get (by omega), List.mem_iff_getElem]
    refine ⟨k - (i + 1), by rw [List.length_drop]; omega, ?_⟩
    rw [List.getElem_drop]
    have e3 : i + 1 + (k - (i + 1)) = k := by omega
    simp only [e3]
theorem clean_ear {to fr : List Int} (h : fr.length = to.length) : cleanB to fr true = !earUp to fr to.length := by
  rw [Bool.eq_iff_iff]
  unfold cleanB earUp
  simp only [Bool.not_eq_true', List.any_eq_false, List.all_eq_true, List.mem_range, badB, Bool.cond_true, Bool.and_eq_false_imp, beq_iff_eq, decide_eq_false_iff_not, List.contains_iff_mem]
  constructor
  · intro H i hi hm
    obtain ⟨j, hj, e⟩ := List.mem_take_iff_getElem.1 hm
    exact H i hi j (by omega) (by rw [getD_get (xs := fr) (i := j) (by omega)]; exact e.symm) (by omega)
  · intro H i hi k hk e hlt
    refine H i hi ?_
    rw [e, getD_get (by omega)]
    exact List.mem_take_iff_getElem.2 ⟨k, by omega, rfl⟩

/-- the way to copy cells to cells -/
def wayI (to fr : List Int) : Int := if cleanB to fr false then 0 else if cleanB to fr true && decide to.Nodup then 1 else 2

end Go.Proofs.Ytjpngmdfnglabaa
